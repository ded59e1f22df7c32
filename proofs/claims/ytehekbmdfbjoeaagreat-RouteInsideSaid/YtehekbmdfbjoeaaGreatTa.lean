/- Ta -/
import Derived.Test.YtehekbmdfbjoeaaGreatMa
import Derived.Test.YtehekbmdfbjoeaaGreatVD
import Derived.Test.YtehekbmdfbjoeaaGreatPu
import Derived.Test.YtehekbmdfbjoeaaGreatVE
open Go.V Go.Pu
set_option linter.unusedVariables false
set_option linter.unusedSimpArgs false
set_option maxRecDepth 20000
namespace Go.Proofs
def vc64 := vcm Tryz.prog 64
theorem vf64 : VF Tryz.prog 64 = some (53, vc64, [.tmp 4]) := by kernel_rfl
abbrev encP (p : PairL) : List PV := [.str p.key, .str p.val, .int .i64 p.stamp]
theorem xQD (a b : Str) : (Op.bytesLess a b || a == b) = !Op.bytesLess b a := by
  have e : (!Op.bytesLess b a) = ble a b := rfl
  rw [e, Bool.eq_iff_iff, ble_iff]
  simp
set_option maxHeartbeats 1000000 in
theorem xTB {q : PV} {xs : List PairL} {p : PairL} (hq : Sl q (xs.map encP)) (hl : xs.length ≤ 1000000000) : VC Tryz.prog 64 [q, .agg (encP p)] [] (ownV ⟨0, 0⟩ ((putL xs p).map encP)) [blkV 3 ((putL xs p).map encP)] := by
  refine vcs vf64 ?_
  repeat first|refine sgo ?_|refine sop ?_
  refine xAE (fun (g : Nat × List PairL × Bool) => [(0, q), (3, .ptr ⟨1, 0⟩ 1 0 0), (5, ownV ⟨1, 8192⟩ (g.2.1.map encP)), (6, .bool g.2.2), (7, .int .i64 g.1)])
    (fun g => [(⟨1, 0⟩, ⟨true, false, 3, [encP p]⟩), (⟨1, 8192⟩, blkV 3 (g.2.1.map encP))]) (fun g => xs.length - g.1)
    (fun g => g.1 ≤ xs.length ∧ g.2.1.length ≤ 2 * g.1 ∧ (xs.drop g.1).foldl (xBY p) g.2 = xs.foldl (xBY p) ([], false)) (0, [], false) goes ⟨by simp, by simp, rfl⟩ ?_
  rintro ⟨i, o, b⟩ ⟨hil, hol, hv⟩
  dsimp only at hil hol hv ⊢
  repeat first|refine sgo ?_|refine sop ?_
  refine cnd (fun h => xAA ?_) (fun h => xAD ?_)
  · have hlt : i < xs.length := by simpa using h
    obtain ⟨x, hx⟩ : ∃ x, xs[i]? = some x := ⟨_, List.getElem?_eq_getElem hlt⟩
    have hxe := gm (enc := encP) (n := (i : Int)) hx (by omega)
    rw [xAt hx, List.foldl_cons] at hv
    repeat first|refine sgo ?_|refine sop ?_
    refine xBa (fun hg => ?_) (fun hg => ?_)
    · repeat first|refine sgo ?_|refine sop ?_
      refine cnd (fun hc => ?_) (fun hc => xAA ?_)
      · rw [xQD] at hc
        repeat first|refine sgo ?_|refine o_v (vap encP p) ?_|refine sop ?_
        refine cnd (fun hd => ?_) (fun hd => xAA ?_)
        · repeat first|refine sgo ?_|refine o_v (vap encP x) ?_|refine sop ?_
          refine again (i + 1, o ++ [p] ++ [x], true) (by simp only; omega) ⟨by simp only; omega, by simp only [List.length_append, List.length_cons, List.length_nil]; omega, ?_⟩ goes
          rw [← hv]
          simp only [xBY, hg, hc, hd, Bool.and_self, if_true]
        · repeat first|refine sgo ?_|refine sop ?_
          refine again (i + 1, o ++ [p], true) (by simp only; omega) ⟨by simp only; omega, by simp only [List.length_append, List.length_cons, List.length_nil]; omega, ?_⟩ goes
          rw [← hv]
          simp only [xBY, hg, hc, hd, Bool.and_self, if_true, Bool.false_eq_true, if_false]
      · rw [xQD] at hc
        repeat first|refine sgo ?_|refine sop ?_
        refine cnd (fun hd => ?_) (fun hd => xAA ?_)
        · repeat first|refine sgo ?_|refine o_v (vap encP x) ?_|refine sop ?_
          refine again (i + 1, o ++ [x], b) (by simp only; omega) ⟨by simp only; omega, by simp only [List.length_append, List.length_cons, List.length_nil]; omega, ?_⟩ goes
          rw [← hv]
          simp only [xBY, hg, hc, hd, Bool.and_false, if_true, Bool.false_eq_true, if_false]
        · repeat first|refine sgo ?_|refine sop ?_
          refine again (i + 1, o, b) (by simp only; omega) ⟨by simp only; omega, by simp only; omega, ?_⟩ goes
          rw [← hv]
          simp only [xBY, hg, hc, hd, Bool.and_false, Bool.false_eq_true, if_false]
    · repeat first|refine sgo ?_|refine sop ?_
      refine cndf (xAA ?_)
      repeat first|refine sgo ?_|refine sop ?_
      refine cnd (fun hd => ?_) (fun hd => xAA ?_)
      · repeat first|refine sgo ?_|refine o_v (vap encP x) ?_|refine sop ?_
        refine again (i + 1, o ++ [x], b) (by simp only; omega) ⟨by simp only; omega, by simp only [List.length_append, List.length_cons, List.length_nil]; omega, ?_⟩ goes
        rw [← hv]
        simp only [xBY, hg, hd, Bool.false_and, if_true, Bool.false_eq_true, if_false]
      · repeat first|refine sgo ?_|refine sop ?_
        refine again (i + 1, o, b) (by simp only; omega) ⟨by simp only; omega, by simp only; omega, ?_⟩ goes
        rw [← hv]
        simp only [xBY, hg, hd, Bool.false_and, if_true, Bool.false_eq_true, if_false]
  · have : i = xs.length := by have : ¬ i < xs.length := by simpa using h
                               omega
    subst this
    rw [List.drop_length] at hv
    simp only [List.foldl_nil] at hv
    repeat first|refine sgo ?_|refine sop ?_
    refine cnd (fun hb => ?_) (fun hb => xAA ?_)
    · repeat first|refine sgo ?_|refine o_v (vap encP p) ?_|refine sop ?_
      refine xAC ⟨.inr rfl, oOwn ?_⟩
      simp only [putL, ← hv, (by simpa using hb : b = false), Bool.false_eq_true, if_false]
    · repeat first|refine sgo ?_|refine sop ?_
      refine xAC ⟨.inr rfl, oOwn ?_⟩
      simp only [putL, ← hv, (by simpa using hb : b = true), if_true]
end Go.Proofs
open Go.V Go.Pu
set_option linter.unusedVariables false
set_option linter.unusedSimpArgs false
set_option maxRecDepth 20000
namespace Go.Proofs
def vc188 := vcm Tryz.prog 188
theorem vf188 : VF Tryz.prog 188 = some (64, vc188, [.tmp 4]) := by kernel_rfl
def vc34 : VCode :=
 (.seq
 (.region 0 false [
 .e 4 (.copy (.c (.bool false))) 0])
 (.seq
 (.seq
 (.region 1 false [
 .e 6 (.copy (.t 0)) 8192,
 .e 7 (.len (.t 6)) 8200,
 .e 8 (.copy (.t 1)) 8208,
 .e 9 (.len (.t 8)) 8216,
 .e 10 (.bin .neq (.t 7) (.t 9)) 8224])
 (.cond (.t 10)
 (.seq
 (.region 2 false [
 .e 4 (.copy (.c (.bool false))) 16384])
 .ret)
 .skip))
 (.seq
 (.seq
 (.region 3 false [
 .e 5 (.copy (.c (.int .i64 0))) 24576])
 (.block 0
 (.loop
 (.seq
 (.seq
 (.region 4 false [
 .e 11 (.copy (.t 5)) 32768,
 .e 12 (.copy (.t 0)) 32776,
 .e 13 (.len (.t 12)) 32784,
 .e 14 (.bin .lss (.t 11) (.t 13)) 32792])
 (.cond (.t 14)
 .skip
 (.exit 0)))
 (.seq
 (.block 1
 (.seq
 (.region 6 true [
 .e 17 (.copy (.t 0)) 49152,
 .e 18 (.copy (.t 5)) 49160,
 .f 19 (.iaddr 3 (.t 17) (.t 18)) 49168 [0, 1],
 .f 20 (.load true 3 (.t 19)) 49176 [2, 0, 1],
 .e 21 (.copy (.t 1)) 49184,
 .e 22 (.copy (.t 5)) 49192,
 .f 23 (.iaddr 3 (.t 21) (.t 22)) 49200 [4, 5],
 .f 24 (.load true 3 (.t 23)) 49208 [6, 4, 5],
 .f 25 (.eqc true [2, 2, 1] (.t 20) (.t 24)) 49216 [3, 2, 0, 1, 7, 6, 4, 5]])
 (.cond (.t 25)
 (.seq
 (.region 7 false [
 .e 4 (.copy (.c (.bool false))) 57344])
 .ret)
 .skip)))
 (.region 5 false [
 .e 15 (.copy (.t 5)) 40960,
 .e 16 (.bin .add (.t 15) (.c (.int .i64 1))) 40968,
 .e 5 (.copy (.t 16)) 40976]))))))
 (.seq
 (.region 8 false [
 .e 4 (.copy (.c (.bool true))) 65536])
 .ret))))
theorem vf34 : VF Tryz.prog 34 = some (26, vc34, [.tmp 4]) := by kernel_rfl
set_option maxHeartbeats 1000000 in
theorem xOq {a b : List PairL} (ha : a.length ≤ 100000000) (hb : b.length ≤ 100000000) : VC Tryz.prog 188 [.sh false (a.map encP), .sh false (b.map encP)] [] (ownV ⟨0, 0⟩ ((xA1 a b).map encP)) [blkV 3 ((xA1 a b).map encP)] := by
  refine vcs vf188 ?_
  have hma : (a.map encP).length = a.length := List.length_map ..
  have hmb : (b.map encP).length = b.length := List.length_map ..
  have hul := xEJ a b
  repeat first|refine sgo ?_|refine sop ?_
  refine xNf ?_
  repeat first|refine sgo ?_|refine o_v vmk0 ?_|refine sop ?_
  refine xNg ?_
  refine xCi (lvl := 1) (fun (g : List PairL × List PairL × List PairL) => [(0, .sh false (g.1.map encP)), (1, .sh false (g.2.1.map encP)), (5, ownV ⟨1, 8232⟩ (g.2.2.map encP))])
    (fun g => [(⟨1, 8232⟩, blkV 3 (g.2.2.map encP))]) (fun g => (g.2.2 ++ g.1) ++ g.2.1 = xA1 a b) (xBJ ?_) ?_
  · refine xAE (fun (g : List PairL × List PairL × List PairL) => [(0, .sh false (g.1.map encP)), (1, .sh false (g.2.1.map encP)), (5, ownV ⟨1, 8232⟩ (g.2.2.map encP))])
      (fun g => [(⟨1, 8232⟩, blkV 3 (g.2.2.map encP))]) (fun g => g.1.length + g.2.1.length)
      (fun g => g.1.length ≤ a.length ∧ g.2.1.length ≤ b.length ∧ g.2.2 ++ xA1 g.1 g.2.1 = xA1 a b) (a, b, []) goes ⟨Nat.le_refl _, Nat.le_refl _, rfl⟩ ?_
    rintro ⟨xs, ys, o⟩ ⟨h1, h2, hv⟩
    dsimp only at h1 h2 hv ⊢
    have hol : o.length ≤ 200000000 := by
      have := congrArg List.length hv
      simp only [List.length_append] at this
      omega
    cases xs with
    | nil =>
      rw [xDh] at hv
      repeat first|refine sgo ?_|refine sop ?_
      refine cndt (xAD ?_)
      exact ⟨([], ys, o), by simpa using hv, goes⟩
    | cons x xs =>
      have hn1 : decide ((((x :: xs).map encP).length : Int) = 0) = false := decide_eq_false (by simp only [List.length_map, List.length_cons]; omega)
      cases ys with
      | nil =>
        rw [xDa] at hv
        repeat first|refine sgo ?_|refine sop ?_
        refine cndt (xAD ?_)
        exact ⟨(x :: xs, [], o), by simpa using hv, goes⟩
      | cons y ys =>
        have hn2 : decide ((((y :: ys).map encP).length : Int) = 0) = false := decide_eq_false (by simp only [List.length_map, List.length_cons]; omega)
        rw [xCu] at hv
        simp only [List.length_cons] at h1 h2
        repeat first|refine sgo ?_|refine sop ?_
        refine cndf ?_
        repeat first|refine sgo ?_|refine sop ?_
        refine cnd (fun h3 => ?_) (fun h3 => ?_)
        · rw [if_pos h3] at hv
          repeat first|refine sgo ?_|refine o_v (vap encP x) ?_|refine o_v0 vsl1 ?_|refine sop ?_
          refine xAD ?_
          refine ⟨(xs, y :: ys, o ++ [x]), by simp only [List.length_cons]; omega, ⟨by simp only; omega, by simp only [List.length_cons]; omega, ?_⟩, goes⟩
          rw [← hv]; simp
        · rw [if_neg (by simp [h3])] at hv
          repeat first|refine sgo ?_|refine sop ?_
          refine cnd (fun h4 => ?_) (fun h4 => xAA ?_)
          · have h4' : x.key = y.key := by simpa using h4
            rw [if_pos h4'] at hv
            repeat first|refine sgo ?_|refine o_v (vap encP y) ?_|refine o_v0 vsl1 ?_|refine sop ?_
            refine agn (xs, ys, o ++ [y]) ⟨by simp only; omega, by simp only; omega, ?_⟩ goes (by simp only [List.length_cons]; omega)
            rw [← hv]; simp
          · have h4' : x.key ≠ y.key := by simpa using h4
            rw [if_neg h4'] at hv
            repeat first|refine sgo ?_|refine o_v (vap encP y) ?_|refine o_v0 vsl1 ?_|refine sop ?_
            refine agn (x :: xs, ys, o ++ [y]) ⟨by simp only [List.length_cons]; omega, by simp only; omega, ?_⟩ goes (by simp only [List.length_cons]; omega)
            rw [← hv]; simp
  rintro ⟨xs, ys, o⟩ hv
  dsimp only at hv ⊢
  have hol := congrArg List.length hv
  simp only [List.length_append] at hol
  repeat first|refine sgo ?_|refine o_v (vaps encP o xs) ?_|refine o_v (vaps encP (o ++ xs) ys) ?_|refine sop ?_
  exact xAC ⟨.inr rfl, oOwn (congrArg (List.map encP) hv)⟩
theorem xRS {q p : PV} {a b : List PairL} (hq : Sl q (a.map encP)) (hp : Sl p (b.map encP)) (ha : a.length ≤ 100000000) (hb : b.length ≤ 100000000) : VC Tryz.prog 188 [q, p] [] (ownV ⟨0, 0⟩ ((xA1 a b).map encP)) [blkV 3 ((xA1 a b).map encP)] :=
  xFu (xOq ha hb) (.cons (PLe.sl hq) (.cons (PLe.sl hp) .nil)) (PLe.refl _)
theorem xT9 {q p : PV} {l m : List PairL} (hq : Sl q (l.map encP)) (hp : Sl p (m.map encP)) (hl : l.length ≤ maxLen) (hm : m.length ≤ maxLen) : VC Tryz.prog 34 [q, p] [] (.bool (decide (l = m))) [] := by
  refine vcs vf34 ?_
  unfold maxLen at hl hm
  repeat first|refine sgo ?_|refine sop ?_
  refine cnd (fun h => ?_) (fun h => xAA ?_)
  · repeat first|refine sgo ?_|refine sop ?_
    refine xAC ⟨.inr rfl, oB ?_⟩
    have : l ≠ m := by
      intro e; subst e
      simp at h
    simp [this]
  · have hlm : l.length = m.length := by have h' : (l.length : Int) = m.length := by simpa using h
                                         omega
    repeat first|refine sgo ?_|refine sop ?_
    refine xAE (fun (g : Nat) => [(0, q), (1, p), (5, .int .i64 g)]) (fun g => []) (fun g => l.length - g)
      (fun g => g ≤ l.length ∧ l.take g = m.take g) 0 goes ⟨Nat.zero_le _, rfl⟩ ?_
    rintro i ⟨hi, hv⟩
    (try dsimp only)
    repeat first|refine sgo ?_|refine sop ?_
    refine cnd (fun h => xAA ?_) (fun h => xAD ?_)
    · have hlt : i < l.length := by have h' := of_decide_eq_true h; simp only [List.length_map] at h'; omega
      obtain ⟨x, hx⟩ : ∃ x, l[i]? = some x := ⟨_, List.getElem?_eq_getElem hlt⟩
      obtain ⟨y, hy⟩ : ∃ x, m[i]? = some x := ⟨_, List.getElem?_eq_getElem (by omega)⟩
      have hxe := gm (enc := encP) (n := (i : Int)) hx (by omega)
      have hye := gm (enc := encP) (n := (i : Int)) hy (by omega)
      repeat first|refine sgo ?_|refine sop ?_
      refine cnd (fun h2 => ?_) (fun h2 => xAA ?_)
      · repeat first|refine sgo ?_|refine sop ?_
        refine xAC ⟨.inr rfl, oB ?_⟩
        have hne : l ≠ m := by
          intro e; subst e
          rw [hx] at hy; cases hy
          simp at h2
        simp [hne]
      · have hxy : x = y := by
          have h3 : x.key = y.key ∧ x.val = y.val ∧ x.stamp = y.stamp := by simpa using h2
          cases x; cases y; simp at h3; obtain ⟨rfl, rfl, rfl⟩ := h3; rfl
        subst hxy
        repeat first|refine sgo ?_|refine sop ?_
        refine agn (i + 1) ⟨by omega, ?_⟩ goes
        rw [List.take_add_one, List.take_add_one, hv, hx, hy]
    · have hge : i = l.length := by have h' := of_decide_eq_false h; simp only [List.length_map] at h'; omega
      subst hge
      repeat first|refine sgo ?_|refine sop ?_
      refine xAC ⟨.inr rfl, oB ?_⟩
      rw [List.take_length, hlm, List.take_length] at hv
      simp [hv]
def zP : PairL := ⟨[], [], 0⟩
end Go.Proofs
open Go.V Go.Pu
set_option linter.unusedVariables false
set_option linter.unusedSimpArgs false
set_option maxRecDepth 20000
namespace Go.Proofs
def vc157 := vcm Tryz.prog 157
theorem vf157 : VF Tryz.prog 157 = some (8, vc157, [.tmp 4]) := by kernel_rfl
def vc154 := vcm Tryz.prog 154
theorem vf154 : VF Tryz.prog 154 = some (8, vc154, [.tmp 4]) := by kernel_rfl
def vc153 := vcm Tryz.prog 153
theorem vf153 : VF Tryz.prog 153 = some (9, vc153, [.tmp 4]) := by kernel_rfl
def vc152 := vcm Tryz.prog 152
theorem vf152 : VF Tryz.prog 152 = some (49, vc152, [.tmp 6, .tmp 7]) := by kernel_rfl
def vc149 := vcm Tryz.prog 149
theorem vf149 : VF Tryz.prog 149 = some (11, vc149, [.tmp 4, .tmp 5]) := by kernel_rfl
def vc169 := vcm Tryz.prog 169
theorem vf169 : VF Tryz.prog 169 = some (32, vc169, [.tmp 4, .tmp 5]) := by kernel_rfl
def vc191 := vcm Tryz.prog 191
theorem vf191 : VF Tryz.prog 191 = some (18, vc191, [.tmp 4]) := by kernel_rfl
theorem xQw : ∀ (a b : Str), Lib.compareBytes a b = xCS a b
  | [], [] => rfl
  | [], _ :: _ => rfl
  | _ :: _, [] => rfl
  | x :: a, y :: b => by
    rw [Lib.compareBytes, xQw a b]
    unfold xCS
    by_cases h : x < y
    · rw [if_pos h, if_pos (blt_cons.2 (.inl h))]
    · rw [if_neg h]
      by_cases h2 : y < x
      · have h3 : ¬ Op.bytesLess (x :: a) (y :: b) = true := by
          rw [blt_cons]
          rintro (h4 | ⟨rfl, _⟩)
          · exact h h4
          · exact UInt8.lt_irrefl _ h2
        have h4 : ¬ (x :: a = y :: b) := by
          intro e
          cases e
          exact UInt8.lt_irrefl _ h2
        rw [if_pos h2, if_neg h3, if_neg h4]
      · have e : x = y := UInt8.le_antisymm (UInt8.not_lt.1 h2) (UInt8.not_lt.1 h)
        subst e
        rw [if_neg h2]
        have h3 : Op.bytesLess (x :: a) (x :: b) = true ↔ Op.bytesLess a b = true := by
          rw [blt_cons]
          constructor
          · rintro (h4 | ⟨_, h4⟩)
            · exact absurd h4 (UInt8.lt_irrefl _)
            · exact h4
          · intro h4; exact .inr ⟨rfl, h4⟩
        by_cases h4 : Op.bytesLess a b = true
        · rw [if_pos h4, if_pos (h3.2 h4)]
        · rw [if_neg h4, if_neg (fun h5 => h4 (h3.1 h5))]
          simp
theorem tpl {tf : TF} {f : VX} {xs : List VX} {fid : Nat} {ps : List PV} (h1 : ev tf f = some (.fn fid [])) (h2 : evs tf xs = some ps) (hb : fid < bnd) : Targ tf f xs fid ps := by
  have := Targ.pl h1 h2 hb
  rwa [List.append_nil] at this
theorem xVF (a b : Str) : VC Tryz.prog 157 [.str a, .str b] [] (.int .i64 (xCS a b)) [] := by
  refine vcs vf157 ?_
  have hx := fun hf' => @xSz Tryz.prog 159 Tryz.f159 Tryz.func159 (by kernel_rfl) (by kernel_rfl) (by kernel_rfl) (by kernel_rfl) hf' a b
  repeat first|refine sgo ?_|refine cxt (ht := tpl rfl rfl (Nat.le_of_ble_eq_true rfl)) (hx _) ?_|refine sop ?_
  exact xAC ⟨.inr rfl, oI (xQw a b)⟩
theorem xT8 (a b : Str) : VC Tryz.prog 154 [.str a, .str b] [] (.int .i64 (xCS a b)) [] := by
  refine vcs vf154 ?_
  repeat first|refine sgo ?_|refine cv0 (xVF a b) ?_|refine sop ?_
  exact xAC ⟨.inr rfl, oI rfl⟩
theorem xPf (p : PairL) (k : Str) : VC Tryz.prog 153 [.agg (encP p), .str k] [] (.int .i64 (xCS p.key k)) [] := by
  refine vcs vf153 ?_
  repeat first|refine sgo ?_|refine cv0 (xT8 p.key k) ?_|refine sop ?_
  exact xAC ⟨.inr rfl, oI rfl⟩
theorem half {n : Nat} : bin .shr (.int .u64 (n : Nat)) (.int .u64 1) = some (.int .u64 ((n / 2 : Nat) : Int)) := by
  show (if (1 : Int) < 0 then none else some (PV.int .u64 ((n : Int).fdiv (2 ^ (Int.toNat 1))))) = _
  rw [if_neg (by decide), Int.fdiv_eq_ediv_of_nonneg _ (by decide)]
  rfl
theorem xPu {a b : PV} (ha : ∀ q, a ≠ .tup q) (hb : ∀ q, b ≠ .tup q) : ∀ vs, PV.tup [a, b] = .tup vs → ∀ p ∈ vs, ∀ q, p ≠ .tup q := by
  intro vs h p hp q
  cases h
  rcases List.mem_cons.1 hp with rfl | hp
  · exact ha q
  · rw [List.mem_singleton.1 hp]; exact hb q
set_option maxHeartbeats 1000000 in
theorem bs_vc {q : PV} {t : List PairL} (k : Str) (hs : Srt t) (hq : Sl q (t.map encP)) (hl : t.length ≤ 100000000) : VC Tryz.prog 152 [q, .str k, .fn 153 []] [] (.tup [.int .i64 (lbN t k), .bool (xAO t k).isSome]) [] := by
  refine xCp vf152 ?_ (Nat.le_of_ble_eq_true rfl) (xPu (by intro q h; cases h) (by intro q h; cases h))
  have hle := xOH k t
  have hget := fun m p => xH3 hs k (m := m) (p := p)
  have hfd := xNM hs k
  have hml : (t.map encP).length = t.length := List.length_map ..
  generalize lbN t k = lb at *
  generalize (xAO t k).isSome = fd at *
  repeat first|refine sgo ?_|refine sop ?_
  refine xAE (fun (g : Nat × Nat) => [(0, q), (1, .str k), (2, .fn 153 []), (8, .int .i64 (t.map encP).length), (9, .int .i64 g.1), (10, .int .i64 g.2)])
    (fun g => []) (fun g => g.2 - g.1) (fun g => g.1 ≤ lb ∧ lb ≤ g.2 ∧ g.2 ≤ t.length) (0, t.length) (goes (h1 := by refine ⟨rfl, rfl, rfl, rfl, rfl, ?_, trivial⟩; exact congrArg (fun n : Nat => some (PV.int .i64 n)) hml)) ⟨Nat.zero_le _, hle, Nat.le_refl _⟩ ?_
  rintro ⟨i, j⟩ ⟨h1, h2, h3⟩
  dsimp only at h1 h2 h3 ⊢
  repeat first|refine sgo ?_|refine sop ?_
  refine cnd (fun h => xAA ?_) (fun h => xAD ?_)
  · have hlt : i < j := by have h' := of_decide_eq_true h; omega
    have c1 : IntKind.u64.wrap ((i : Int) + (j : Int)) = ((i + j : Nat) : Int) := by unfold IntKind.wrap; simp [IntKind.bits, IntKind.signed]; omega
    have c2 : IntKind.i64.wrap (((i + j) / 2 : Nat) : Int) = (((i + j) / 2 : Nat) : Int) := xCH (by omega) (by omega)
    obtain ⟨p, hp⟩ : ∃ x, t[(i + j) / 2]? = some x := ⟨_, List.getElem?_eq_getElem (by omega)⟩
    have hpe := gm (enc := encP) (n := (((i + j) / 2 : Nat) : Int)) hp (by omega)
    have hgp := hget _ _ hp
    repeat first|refine sgo ?_|refine xB6 ?_|refine xBe half ?_|refine cv0 (xPf p k) ?_|refine sop ?_
    refine cnd (fun h4 => ?_) (fun h4 => ?_)
    · have h5 := hgp.1 (cmpStr_lt.1 (of_decide_eq_true h4))
      repeat first|refine sgo ?_|refine sop ?_
      exact agn ((i + j) / 2 + 1, j) ⟨by simp only; omega, by simp only; omega, by simp only; omega⟩ goes
    · have h5 : ¬ (i + j) / 2 < lb := fun h5 => (of_decide_eq_false h4) (cmpStr_lt.2 (hgp.2 h5))
      repeat first|refine sgo ?_|refine sop ?_
      exact agn (i, (i + j) / 2) ⟨by simp only; omega, by simp only; omega, by simp only; omega⟩ goes
  · have h' := of_decide_eq_false h
    have e : i = lb := by omega
    subst e
    repeat first|refine sgo ?_|refine sop ?_
    refine xBa (fun hg => ?_) (fun hg => ?_)
    · have hlt : i < t.length := by have h' := of_decide_eq_true hg; omega
      obtain ⟨p, hp⟩ : ∃ x, t[i]? = some x := ⟨_, List.getElem?_eq_getElem hlt⟩
      have hpe := gm (enc := encP) (n := (i : Int)) hp (by omega)
      rw [hp] at hfd
      repeat first|refine sgo ?_|refine cv0 (xPf p k) ?_|refine sop ?_
      refine xAC ⟨.inr rfl, oAny ?_⟩
      have : (xCS p.key k == 0) = fd := by
        rw [← hfd]
        show _ = decide (p.key = k)
        by_cases hk : p.key = k
        · rw [decide_eq_true hk, cmpStr_eq.2 hk]; rfl
        · rw [decide_eq_false hk]
          have : xCS p.key k ≠ 0 := fun e => hk (cmpStr_eq.1 e)
          simpa using this
      rw [← this]
      rfl
    · have hge : t.length ≤ i := by have h' := of_decide_eq_false hg; omega
      rw [List.getElem?_eq_none hge] at hfd
      repeat first|refine sgo ?_|refine sop ?_
      refine xAC ⟨.inr rfl, oAny ?_⟩
      rw [← hfd]
      rfl
theorem xJn {q : PV} {t : List PairL} (k : Str) (hs : Srt t) (hq : Sl q (t.map encP)) (hl : t.length ≤ 100000000) : VC Tryz.prog 149 [q, .str k] [] (.tup [.int .i64 (lbN t k), .bool (xAO t k).isSome]) [] := by
  refine xCp vf149 ?_ (Nat.le_of_ble_eq_true rfl) (xPu (by intro q h; cases h) (by intro q h; cases h))
  repeat first|refine sgo ?_|refine cv0 (bs_vc k hs hq hl) ?_|refine sop ?_
  exact xAC ⟨.inr rfl, oAny rfl⟩
theorem xLe {q : PV} {t : List PairL} (s : SpanL) (hs : Srt t) (hq : Sl q (t.map encP)) (hl : t.length ≤ 100000000) : VC Tryz.prog 169 [q, .agg (encS s)] [] (.tup [.int .i64 (xAc t s).1, .int .i64 (xAc t s).2]) [] := by
  refine xCp vf169 ?_ (Nat.le_of_ble_eq_true rfl) (xPu (by intro q h; cases h) (by intro q h; cases h))
  have hml : (t.map encP).length = t.length := List.length_map ..
  repeat first|refine sgo ?_|refine cv0 (xCQ s) ?_|refine sop ?_
  refine cnd (fun h => ?_) (fun h => xAA ?_)
  · repeat first|refine sgo ?_|refine sop ?_
    refine xAC ⟨.inr rfl, oAny ?_⟩
    rw [xAc, if_pos h]; rfl
  · repeat first|refine sgo ?_|refine cv0 (xJn s.lo hs hq hl) ?_|refine sop ?_
    refine cnd (fun h2 => ?_) (fun h2 => xAA ?_)
    · have h2' : s.hi ≠ [] := by simpa using h2
      repeat first|refine sgo ?_|refine cv0 (xJn s.hi hs hq hl) ?_|refine sop ?_
      refine xAC ⟨.inr rfl, oAny ?_⟩
      rw [xAc, if_neg (by simp [h])]
      simp only [if_neg h2']
      rfl
    · have h2' : s.hi = [] := by simpa using h2
      repeat first|refine sgo ?_|refine sop ?_
      refine xAC ⟨.inr rfl, oAny ?_⟩
      rw [xAc, if_neg (by simp [h])]
      simp only [if_pos h2', hml]
      rfl
theorem xPV {t : List PairL} (s : SpanL) (hs : Srt t) (hl : t.length ≤ 100000000) : VC Tryz.prog 191 [.sh false (t.map encP), .agg (encS s)] [] (.sh true ((xBo t s).map encP)) [] := by
  refine vcs vf191 ?_
  obtain ⟨h1, h2⟩ := xIa hs s
  have h3 := xRr hs s
  have hb := xLe (q := .sh false (t.map encP)) s hs Sl.sh hl
  generalize (xAc t s).1 = a at *
  generalize (xAc t s).2 = z at *
  repeat first|refine sgo ?_|refine cv0 hb ?_|refine o_v0 (vslg t (xBo t s) a z h3) ?_|refine sop ?_
  exact xAC ⟨.inr rfl, oAny rfl⟩
theorem xRp {q : PV} {t : List PairL} (s : SpanL) (hs : Srt t) (hq : Sl q (t.map encP)) (hl : t.length ≤ 100000000) : VC Tryz.prog 191 [q, .agg (encS s)] [] (.sh false ((xBo t s).map encP)) [] :=
  xFu (xPV s hs hl) (.cons (PLe.sl hq) (.cons (PLe.refl _) .nil)) (PLe.sl Sl.sh)
end Go.Proofs
open Go.V Go.Pu
set_option linter.unusedVariables false
set_option linter.unusedSimpArgs false
set_option maxRecDepth 20000
namespace Go.Proofs
def presL : List (List UInt8) := [[], [97, 47], [98, 47], [97, 47, 98, 47], [97, 47, 2], [99, 47]]
def preL (n : Nat) : List UInt8 := presL.getD (n % 6) []
theorem pre_len (n : Nat) : (preL n).length ≤ 4 := by
  have h : n % 6 < 6 := Nat.mod_lt _ (by decide)
  unfold preL
  generalize n % 6 = m at h
  have : ∀ m, m < 6 → (presL.getD m []).length ≤ 4 := by decide
  exact this m h
theorem vslD {lvl site : Nat} {tf : Nat → Option PV} {hf : Bid → Option Blk} {x : VX} {lo : Option VX} {s : Str} (n : Nat) (hn : n ≤ s.length) (hx : ev tf x = some (.str s) := by rfl) (h1 : xAQ tf 0 lo = some (n : Int) := by rfl) : vop lvl site tf hf (.slstr x lo none) = some ⟨.str (s.drop n), [], []⟩ := by
  rw [xOn (a := n) (z := (s.length : Nat)) hx h1 rfl (by omega) (by omega) (by omega)]
  have e : (s.drop (n : Int).toNat).take (((s.length : Nat) : Int).toNat - (n : Int).toNat) = s.drop n := by
    rw [List.take_of_length_le (by simp)]; simp
  rw [e]
end Go.Proofs
open Go.V Go.Pu
set_option linter.unusedVariables false
set_option linter.unusedSimpArgs false
set_option maxRecDepth 20000
namespace Go.Proofs
def vc171 := vcm Tryz.prog 171
theorem vf171 : VF Tryz.prog 171 = some (27, vc171, [.tmp 4]) := by kernel_rfl
def vc170 := vcm Tryz.prog 170
theorem vf170 : VF Tryz.prog 170 = some (36, vc170, [.tmp 2]) := by kernel_rfl
def vc168 := vcm Tryz.prog 168
theorem vf168 : VF Tryz.prog 168 = some (21, vc168, [.tmp 4]) := by kernel_rfl
theorem xSg : VC Tryz.prog 171 [.nils, .int .i64 0] [] .nils [] := by
  refine vcs vf171 ?_
  repeat first|refine sgo ?_|refine sop ?_
  refine cndf (xAA ?_)
  repeat first|refine sgo ?_|refine o_v0 xNp ?_|refine sop ?_
  refine cndf (xAA ?_)
  repeat first|refine sgo ?_|refine sop ?_
  exact xAC ⟨.inr rfl, oAny rfl⟩
theorem xUx {n : Nat} (h0 : 0 < n) (h1 : n ≤ 100000000) : VC Tryz.prog 171 [.nils, .int .i64 n] [] (.own ⟨0, 0⟩ n 0 0) [blkV 3 (List.replicate n (encP zP))] := by
  refine vcs vf171 ?_
  have s1 : bin .sub (.int .i64 0) (.int .i64 (([] : List (List PV)).length : Int)) = some (.int .i64 0) := rfl
  have s2 : bin .sub (.int .i64 (n : Int)) (.int .i64 0) = some (.int .i64 (n : Int)) := by
    show some (PV.int .i64 (IntKind.i64.wrap ((n : Int) - 0))) = _
    rw [Int.sub_zero, xCH (by omega) (by omega)]
  repeat first|refine sgo ?_|refine sop ?_
  refine cndf (xAA ?_) rfl (decide_eq_false (by omega))
  repeat first|refine sgo ?_|refine o_v0 xNp ?_|refine xBe s1 ?_|refine xBe s2 ?_|refine sop ?_
  refine cndt ?_ rfl (decide_eq_true (by omega))
  repeat first|refine sgo ?_|refine o_v0 xNp ?_|refine o_v0 vsln ?_|refine o_v (vappz (n := n)) ?_|refine xHh (a := 0) (z := 0) ?_|refine sop ?_
  exact xAC ⟨.inr rfl, xL8 rfl rfl rfl (by decide)⟩
abbrev encL (l : List PairL) : List PV := [.sh false (l.map encP)]
def totL (ls : List (List PairL)) : Nat := (ls.map List.length).sum
theorem xMZ (l : List PairL) (ls : List (List PairL)) : totL (l :: ls) = l.length + totL ls := by simp [totL]
theorem xRU (ls : List (List PairL)) : ls.flatten.length = totL ls := by simp [totL, List.length_flatten]
set_option maxHeartbeats 1000000 in
theorem xQt {q : PV} {ls : List (List PairL)} (hq : Sl q (ls.map encL)) (hl : ls.length ≤ 100000000) (ht : totL ls ≤ 100000000) : VC Tryz.prog 170 [q] [] (ownV ⟨0, 0⟩ (ls.flatten.map encP)) [blkV 3 (ls.flatten.map encP)] := by
  refine vcs vf170 ?_
  have hml : (ls.map encL).length = ls.length := List.length_map ..
  have htf := xRU ls
  repeat first|refine sgo ?_|refine sop ?_
  refine xAE (fun (g : Nat × Nat) => [(0, q), (3, .int .i64 g.2), (9, q), (10, .int .i64 (ls.map encL).length), (11, .int .i64 g.1)])
    (fun g => []) (fun g => ls.length - g.1)
    (fun g => g.1 ≤ ls.length ∧ g.2 + totL (ls.drop g.1) = totL ls) (0, 0) goes ⟨Nat.zero_le _, by simp⟩ ?_
  rintro ⟨i, n⟩ ⟨hi, hn⟩
  dsimp only at hi hn ⊢
  repeat first|refine sgo ?_|refine sop ?_
  refine cnd (fun h => xAA ?_) (fun h => xAD ?_)
  · have hlt : i < ls.length := by have h' := of_decide_eq_true h; omega
    obtain ⟨l, hl⟩ : ∃ x, ls[i]? = some x := ⟨_, List.getElem?_eq_getElem hlt⟩
    have hle := gm (enc := encL) (n := (i : Int)) hl (by omega)
    rw [xAt hl, xMZ] at hn
    have hll : (l.map encP).length = l.length := List.length_map ..
    repeat first|refine sgo ?_|refine sop ?_
    refine cndf (xAA ?_) rfl (decide_eq_false (by omega))
    repeat first|refine sgo ?_|refine sop ?_
    exact agn (i + 1, n + l.length) ⟨by simp only; omega, by simp only; omega⟩ (goes (h1 := by
      refine ⟨rfl, ?_, rfl, rfl, rfl, trivial⟩
      exact congrArg (fun z => some (PV.int .i64 z)) (by simp only [hll]; omega)))
  have hge : i = ls.length := by have h' := of_decide_eq_false h; omega
  subst hge
  have hn2 : n = totL ls := by rw [List.drop_length] at hn; simpa [totL] using hn
  subst hn2
  clear hn h
  rcases Nat.eq_zero_or_pos (totL ls) with h0 | hpos
  · have hall : ∀ (m : List (List PairL)), totL m = 0 → ∀ l ∈ m, l = [] := by
      intro m
      induction m with
      | nil => intro _ l hl; cases hl
      | cons x m ih =>
        intro h l hl
        rw [xMZ] at h
        rcases List.mem_cons.1 hl with rfl | hl
        · exact List.length_eq_zero_iff.1 (by omega)
        · exact ih (by omega) l hl
    have hfl : ls.flatten = [] := List.length_eq_zero_iff.1 (by omega)
    rw [hfl, h0]
    repeat first|refine sgo ?_|refine cv0 xSg ?_|refine sop ?_
    refine xAE (fun (g : Nat) => [(6, ownV ⟨1, 106512⟩ (([] : List PairL).map encP)), (25, q), (26, .int .i64 (ls.map encL).length), (27, .int .i64 g)])
      (fun g => [(⟨1, 106512⟩, blkV 3 (([] : List PairL).map encP))]) (fun g => ls.length - g)
      (fun g => g ≤ ls.length) 0 ((Imp.nil (t := 6) (b := ⟨1, 106512⟩) (esz := 3) rfl rfl (by decide)).trans goes) (Nat.zero_le _) ?_
    intro i hi
    (try dsimp only)
    repeat first|refine sgo ?_|refine sop ?_
    refine cnd (fun h => xAA ?_) (fun h => xAD ?_)
    · have hlt : i < ls.length := by have h' := of_decide_eq_true h; omega
      obtain ⟨l, hl⟩ : ∃ x, ls[i]? = some x := ⟨_, List.getElem?_eq_getElem hlt⟩
      have hle := gm (enc := encL) (n := (i : Int)) hl (by omega)
      have hl0 := hall ls h0 l (List.mem_of_getElem? hl)
      subst hl0
      repeat first|refine sgo ?_|refine o_v (vaps encP [] []) ?_|refine sop ?_
      exact agn (i + 1) (by omega) goes
    · repeat first|refine sgo ?_|refine sop ?_
      exact xAC ⟨.inr rfl, oOwn rfl⟩
  · have hrep : List.replicate (totL ls) (encP zP) = (List.replicate (totL ls) zP).map encP := by rw [List.map_replicate]
    have hg := xUx hpos ht
    rw [hrep] at hg
    generalize totL ls = N at *
    have hcl : (blkV 3 ((List.replicate N zP).map encP)).frz = false ∧ ∀ e ∈ (blkV 3 ((List.replicate N zP).map encP)).els, ∀ c ∈ e, cS c = true := ⟨rfl, by intro e he; obtain ⟨a, _, rfl⟩ := List.mem_map.1 he; simp [cS, cN, clean]⟩
    repeat first|refine sgo ?_|refine cv hg ?_|refine sop ?_
    refine xAE (fun (g : Nat × List PairL) => [(6, .own ⟨1, 73736⟩ N 0 g.2.length), (25, q), (26, .int .i64 (ls.map encL).length), (27, .int .i64 g.1)])
      (fun g => [(⟨1, 73736⟩, blkV 3 ((g.2 ++ List.replicate (N - g.2.length) zP).map encP))]) (fun g => ls.length - g.1)
      (fun g => g.1 ≤ ls.length ∧ g.2 ++ (ls.drop g.1).flatten = ls.flatten) (0, []) goes ⟨Nat.zero_le _, rfl⟩ ?_
    rintro ⟨i, o⟩ ⟨hi, hv⟩
    dsimp only at hi hv ⊢
    have hol := congrArg List.length hv
    rw [List.length_append, htf] at hol
    repeat first|refine sgo ?_|refine sop ?_
    refine cnd (fun h => xAA ?_) (fun h => xAD ?_)
    · have hlt : i < ls.length := by have h' := of_decide_eq_true h; omega
      obtain ⟨l, hl⟩ : ∃ x, ls[i]? = some x := ⟨_, List.getElem?_eq_getElem hlt⟩
      have hle := gm (enc := encL) (n := (i : Int)) hl (by omega)
      rw [xAt hl, List.flatten_cons] at hv hol
      rw [List.length_append] at hol
      have e1 : o ++ l ++ (List.replicate (N - o.length) zP).drop l.length = (o ++ l) ++ List.replicate (N - (o ++ l).length) zP := by
        rw [List.drop_replicate, List.length_append]; congr 2; omega
      have hrl : (List.replicate (N - o.length) zP).length = N - o.length := List.length_replicate ..
      have e2 : o.length + l.length = (o ++ l).length := List.length_append.symm
      repeat first|refine sgo ?_|refine o_v (vapfE encP o l (List.replicate (N - o.length) zP) e1 e2) ?_|refine sop ?_
      refine agn (i + 1, o ++ l) ⟨by simp only; omega, by rw [← hv]; simp⟩ goes
    · have hge : i = ls.length := by have h' := of_decide_eq_false h; omega
      subst hge
      rw [List.drop_length] at hv hol
      rw [List.flatten_nil, List.append_nil] at hv
      rw [List.flatten_nil, List.length_nil] at hol
      subst hv
      simp only [htf, Nat.sub_self, List.replicate_zero, List.append_nil]
      repeat first|refine sgo ?_|refine sop ?_
      exact xAC ⟨.inr rfl, oOwn rfl⟩
theorem xSi {t : List PairL} (s : SpanL) (hs : Srt t) (hl : t.length ≤ 100000000) : VC Tryz.prog 168 [.sh false (t.map encP), .agg (encS s)] [] (ownV ⟨0, 0⟩ ((xAv t s).map encP)) [blkV 3 ((xAv t s).map encP)] := by
  refine vcs vf168 ?_
  obtain ⟨h1, h2⟩ := xIa hs s
  have h3 := xU2 hs s
  have hb := xLe (q := .sh false (t.map encP)) s hs Sl.sh hl
  have hml : (t.map encP).length = t.length := List.length_map ..
  rw [← h3]
  generalize (xAc t s).1 = a at *
  generalize (xAc t s).2 = z at *
  have hc := xQt (q := .sh false ([t.take a, t.drop z].map encL)) (ls := [t.take a, t.drop z]) Sl.sh (by simp) (by simp [totL]; omega)
  rw [show [t.take a, t.drop z].flatten = t.take a ++ t.drop z by simp] at hc
  repeat first|refine sgo ?_|refine cv0 hb ?_|refine o_v0 (vslh t (t.take a) 0 a (by simp)) ?_|refine o_v0 (vslh t (t.drop z) z t.length (by rw [List.take_of_length_le (by simp)]) (h2 := congrArg (fun n : Nat => some (n : Int)) hml)) ?_|refine cv hc ?_|refine sop ?_
  exact xAC ⟨.inr rfl, oOwn rfl⟩
theorem xKJ {q : PV} {t : List PairL} (s : SpanL) (hs : Srt t) (hq : Sl q (t.map encP)) (hl : t.length ≤ 100000000) : VC Tryz.prog 168 [q, .agg (encS s)] [] (ownV ⟨0, 0⟩ ((xAv t s).map encP)) [blkV 3 ((xAv t s).map encP)] :=
  xFu (xSi s hs hl) (.cons (PLe.sl hq) (.cons (PLe.refl _) .nil)) (PLe.refl _)
end Go.Proofs
open Go.V Go.Pu
set_option linter.unusedVariables false
set_option linter.unusedSimpArgs false
set_option maxRecDepth 20000
namespace Go.Proofs
def vc151 := vcm Tryz.prog 151
theorem vf151 : VF Tryz.prog 151 = some (95, vc151, [.tmp 6]) := by kernel_rfl
theorem insA {α : Type} {A : List α} {q z : α} {i m : Nat} (hA : A.length = i) : (A ++ List.replicate (m + 1) z).take i ++ [q].take (m + 1) ++ (A ++ List.replicate (m + 1) z).drop (i + min [q].length (m + 1)) = A ++ q :: List.replicate m z := by
  subst hA
  have e : min [q].length (m + 1) = 1 := by simp
  rw [e, List.take_left', List.drop_append, List.drop_of_length_le (by omega)]
  · simp
  · rfl
theorem insB {α : Type} {A B C : List α} {q : α} {i m : Nat} (hA : A.length = i) (hB : B.length = m) (hC : C.length = m) : (A ++ q :: C).take (i + 1) ++ B.take m ++ (A ++ q :: C).drop (i + 1 + min B.length m) = A ++ q :: B := by
  subst hA; subst hB
  rw [Nat.min_self, List.take_length, List.take_append, List.take_of_length_le (l := A) (by omega), List.drop_append, List.drop_of_length_le (l := A) (by omega)]
  have e : A.length + 1 - A.length = 1 := by omega
  have e2 : A.length + 1 + B.length - A.length = B.length + 1 := by omega
  rw [e, e2]
  simp [hC]
theorem insC {α : Type} {A B : List α} {y : α} {i m : Nat} (hA : A.length = i) (hB : B.length = m) (hm : 0 < m) : (A ++ B ++ [y]).take (i + 1) ++ (B ++ [y]).take m ++ (A ++ B ++ [y]).drop (i + 1 + min (B ++ [y]).length m) = A ++ B.take 1 ++ B := by
  subst hA; subst hB
  have e3 : min (B ++ [y]).length B.length = B.length := by simp
  rw [e3, List.append_assoc A B [y], List.take_append (l₁ := A), List.take_of_length_le (l := A) (by omega), List.drop_append, List.drop_of_length_le (l := A) (by omega)]
  have e : A.length + 1 - A.length = 1 := by omega
  have e2 : A.length + 1 + B.length - A.length = B.length + 1 := by omega
  rw [e, e2, List.take_left' rfl, List.drop_of_length_le (by simp), List.take_append_of_le_length (by omega)]
  simp
theorem insD {α : Type} {A B : List α} {q : α} {i m : Nat} (hA : A.length = i) (hB : B.length = m) (hm : 0 < m) : (A ++ B.take 1 ++ B).take i ++ [q].take (m + 1) ++ (A ++ B.take 1 ++ B).drop (i + min [q].length (m + 1)) = A ++ q :: B := by
  subst hA; subst hB
  have e : min [q].length (B.length + 1) = 1 := by simp
  rw [e, List.append_assoc A (B.take 1) B, List.take_left' rfl, List.drop_append (l₁ := A), List.drop_of_length_le (l := A) (by omega)]
  have e : A.length + 1 - A.length = 1 := by omega
  rw [e]
  cases B with
  | nil => simp at hm
  | cons b B => simp
def xSc (xs : List PairL) (i : Nat) (p : PairL) : List PairL := xs.take i ++ p :: xs.drop i
theorem encP_len (p : PairL) : (encP p).length = 3 := rfl
set_option maxHeartbeats 1000000 in
theorem xNs {n i : Nat} (xs : List PairL) (p : PairL) (hn : xs.length = n) (hi : i ≤ n) (hm : n ≤ 100000000) :
    VC Tryz.prog 151 [.own ⟨0, 0⟩ n 0 n, .int .i64 i, .sh false [encP p]] [blkV 3 (xs.map encP)] (.own ⟨0, 0⟩ (n + 1) 0 (n + 1)) [blkV 3 ((xSc xs i p).map encP)] := by
  refine vcs vf151 ?_
  have hml : (xs.map encP).length = n := by rw [List.length_map, hn]
  have hins : (xSc xs i p).map encP = (xs.map encP).take i ++ encP p :: (xs.map encP).drop i := by simp [xSc, List.map_take, List.map_drop]
  have okp : okEls 3 [encP p] := okEls.map (xs := [p]) (fun a => by simp [closed])
  have okx : okEls 3 (xs.map encP) := okEls.map (fun a => by simp [closed])
  rw [hins]
  clear hins
  repeat first|refine sgo ?_|refine o_v0 (v := .int .i64 1) rfl ?_|refine o_v (vslo i n (hw' := hml.symm)) ?_|refine sop ?_
  refine cndf (xAA ?_)
  repeat first|refine sgo ?_|refine sop ?_
  refine cnd (fun h => ?_) (fun h => xAA ?_)
  · have hin : i = n := by have h' := of_decide_eq_true h; omega
    subst hin
    repeat first|refine sgo ?_|refine o_v (vaps encP xs [p] (hnn := hml.symm)) ?_|refine sop ?_
    refine xAC ⟨.inr rfl, oLO ?_ ?_⟩
    · rw [List.take_of_length_le (by omega), List.drop_of_length_le (by omega), List.map_append]; rfl
    · exact congrArg (fun k => some (PV.own ⟨0, 0⟩ k 0 k)) (by simp [hn])
  have hin : i < n := by have h' := of_decide_eq_false h; omega
  have hle : ∀ e ∈ xs.map encP, e.length = 3 := fun e he => (okx e he).1
  have hcl : ∀ e ∈ xs.map encP, ∀ c ∈ e, closed c = true := fun e he => (okx e he).2
  generalize xs.map encP = L at *
  obtain ⟨m, hm0⟩ : ∃ m, n = i + m := ⟨n - i, by omega⟩
  have hA : (L.take i).length = i := by rw [List.length_take]; omega
  have hB : (L.drop i).length = m := by rw [List.length_drop]; omega
  have hfm : i + m ≤ n := by omega
  have hfm1 : i + (m + 1) ≤ n + 1 := by omega
  have hAB : L.take i ++ L.drop i = L := List.take_append_drop i L
  have okB : okEls 3 (L.drop i) := fun e he => okx e (List.mem_of_mem_drop he)
  refine xBs (ct_ch (xLc ?_))
  refine sh_v rfl (sh_v rfl (sh_v (xTl rfl rfl (xCH (by omega) (by omega))) (sh_v rfl (sh_cap rfl (by decide) (fun ad c hc => ?_) ⟨_, rfl, hml.symm⟩))))
  refine sh_v rfl (xS6 ?_)
  refine xVE (fun h2 => ?_) (fun h2 => ?_)
  · have hbig : c < n + 1 := by have h' := of_decide_eq_true h2; omega
    have e1 : i + (m + 1) = n + 1 := by omega
    refine xLc ?_
    refine sh_v rfl (sh_v rfl (sh_v (vslo 0 i (hw' := hml.symm)) (sh_v rfl (sh_v rfl (sh_v (xTl rfl rfl (xCH (by omega) (by omega))) (sh_v rfl (sh_v (v_sub rfl rfl (xCH (by omega) (by omega))) ?_)))))))
    refine xT7 (n := m + 1) (len2 := i) ?_ (by omega) (hq := congrArg (fun z => some (PV.int .i64 z)) (show ((n : Int) + 1) - (i : Int) = ((m + 1 : Nat) : Int) by omega)) (hwB := hml.symm) (hlen := hle) (hcl := hcl)
    rw [e1]
    refine sh_v rfl (xS6 (ch_ct ?_))
    have hlen : (L.take i ++ List.replicate (m + 1) (encP zP)).length = n + 1 := by rw [List.length_append, List.length_replicate, hA]; omega
    have hr1 := insA (q := encP p) (z := encP zP) (m := m) hA
    have hlen2 : (L.take i ++ encP p :: List.replicate m (encP zP)).length = n + 1 := by rw [List.length_append, List.length_cons, List.length_replicate, hA]; omega
    have hr2 := insB (q := encP p) hA hB (List.length_replicate (n := m) (a := encP zP))
    have hlen3 : (L.take i ++ encP p :: L.drop i).length = n + 1 := by rw [List.length_append, List.length_cons, hA, hB]; omega
    have hsrc : (L.drop i).take m = L.drop i := List.take_of_length_le (by omega)
    repeat first|refine sgo ?_|refine o_v (vslo i (n + 1) (o := i) (l := m + 1) (hw' := hlen.symm)) ?_|refine o_v (vcpy _ [encP p] hr1 okp (hw' := hlen.symm)) ?_|refine sop ?_
    have okB' : okEls 3 ((L.drop i).take m) := by rw [hsrc]; exact okB
    have hr2' : (L.take i ++ encP p :: List.replicate m (encP zP)).take (i + 1) ++ ((L.drop i).take m).take m ++ (L.take i ++ encP p :: List.replicate m (encP zP)).drop (i + 1 + min ((L.drop i).take m).length m) = L.take i ++ encP p :: L.drop i := by rw [hsrc]; exact hr2
    repeat first|refine sgo ?_|refine o_v (vslo (i + 1) (n + 1) (o := i + 1) (l := m) (hw' := hlen2.symm)) ?_|refine o_v (vslo i n (o := i) (l := m) (hw' := hml.symm)) ?_|refine o_v (vcpy _ ((L.drop i).take m) hr2' okB' (hct := by exact xDG (els := []) (B := blkV 3 L) (off := i) (len := m) rfl rfl hml.symm hfm) (hw' := hlen2.symm)) ?_|refine sop ?_
    refine xE9 (Imp.onto 6 (n + 1) ⟨0, 0⟩ ⟨1, 73792⟩ (els0 := L) (els1 := L.take i ++ encP p :: L.drop i) (by omega) hlen3.symm) ?_
    exact xAC ⟨.inr rfl, oLO rfl⟩
  · have hsm : n + 1 ≤ c := by have h' := of_decide_eq_false h2; omega
    refine xQ3 (t0 := 0) (m := 1) hml (fun rows hr hrc => xAA ?_) hsm
    obtain ⟨e0, rfl⟩ : ∃ e0, rows = [e0] := by
      match rows, hr with
      | [e0], _ => exact ⟨e0, rfl⟩
    have hlen : (L ++ [e0]).length = n + 1 := by simp [hml]
    have hov := fun hf' B hb => @xLk Tryz.prog 155 Tryz.f155 55 4 84 3 Tryz.func155 (by kernel_rfl) (by kernel_rfl) (by kernel_rfl) (by kernel_rfl) (by kernel_rfl) (by kernel_rfl) (by decide) hf' false [encP p] ⟨0, 0⟩ (n + 1) (i + 1) m B hb
    repeat first|refine sgo ?_|refine o_v (vslo 0 (n + 1) (o := 0) (l := n + 1) (hw' := hlen.symm)) ?_|refine o_v (vslo (i + 1) (n + 1) (o := i + 1) (l := m) (hw' := hlen.symm)) ?_|refine cxt (ht := tpl rfl rfl (Nat.le_of_ble_eq_true rfl)) (hov _ _ rfl rfl rfl rfl hlen.symm) ?_|refine sop ?_
    refine cndt ?_
    have hr3 := insC (y := e0) hA hB (by omega)
    rw [hAB] at hr3
    have hs3 : ((L ++ [e0]).drop i).take (m + 1) = L.drop i ++ [e0] := by
      rw [List.drop_append_of_le_length (by omega), List.take_of_length_le (by rw [List.length_append, hB]; exact Nat.le_refl _)]
    have hlen2 : (L.take i ++ (L.drop i).take 1 ++ L.drop i).length = n + 1 := by rw [List.length_append, List.length_append, hA, List.length_take (l := L.drop i), hB]; omega
    have hr4 := insD (q := encP p) hA hB (by omega)
    have ok3 : okEls 3 (((L ++ [e0]).drop i).take (m + 1)) := by rw [hs3]; exact okEls.app okB (okEls.cons (hrc e0 (by simp)).1 (hrc e0 (by simp)).2 okEls.nil)
    rw [← hs3] at hr3
    repeat first|refine sgo ?_|refine o_v (vslo (i + 1) (n + 1) (o := i + 1) (l := m) (hw' := hlen.symm)) ?_|refine o_v (vslo i (n + 1) (o := i) (l := m + 1) (hw' := hlen.symm)) ?_|refine o_v (vslo i (n + 1) (o := i) (l := m + 1) (hw' := hlen2.symm)) ?_|refine o_v (vcpy _ (((L ++ [e0]).drop i).take (m + 1)) hr3 ok3 (hct := by exact xDG (els := []) (B := blkV 3 (L ++ [e0])) (off := i) (len := m + 1) rfl rfl hlen.symm hfm1) (hw' := hlen.symm)) ?_|refine o_v (vcpy _ [encP p] hr4 okp (hw' := hlen2.symm)) ?_|refine sop ?_
    exact xAC ⟨.inr rfl, oLO rfl⟩
end Go.Proofs
open Go.V Go.Pu
set_option linter.unusedVariables false
set_option linter.unusedSimpArgs false
set_option maxRecDepth 20000
namespace Go.Proofs
def vc150 := vcm Tryz.prog 150
theorem vf150 : VF Tryz.prog 150 = some (8, vc150, [.tmp 2]) := by kernel_rfl
def vc146 := vcm Tryz.prog 146
theorem vf146 : VF Tryz.prog 146 = some (28, vc146, [.tmp 4]) := by kernel_rfl
def vc167 := vcm Tryz.prog 167
theorem vf167 : VF Tryz.prog 167 = some (9, vc167, [.tmp 4]) := by kernel_rfl
theorem xIV {xs : List PairL} (hl : xs.length ≤ 100000000) : VC Tryz.prog 150 [.sh false (xs.map encP)] [] (ownV ⟨0, 0⟩ (xs.map encP)) [blkV 3 (xs.map encP)] := by
  refine vcs vf150 ?_
  cases xs with
  | nil =>
    refine xNe (t := 0) (ex := false) (tm := xGs 0 [.sh false []]) rfl ?_ ?_
    · repeat first|refine sgo ?_|refine sop ?_
      refine cndt ?_
      repeat first|refine sgo ?_|refine sop ?_
      refine xE9 (Imp.nil (t := 2) (b := ⟨1, 900000⟩) (esz := 3) rfl rfl (by decide)) ?_
      exact xAC ⟨.inr rfl, oOwn rfl⟩
    · repeat first|refine sgo ?_|refine sop ?_
      refine cndf (xAA ?_)
      repeat first|refine sgo ?_|refine o_v (vaps encP [] []) ?_|refine sop ?_
      exact xAC ⟨.inr rfl, oOwn rfl⟩
  | cons x xs =>
    have hl2 : xs.length + 1 ≤ 100000000 := hl
    repeat first|refine sgo ?_|refine sop ?_
    refine cndf (xAA ?_)
    repeat first|refine sgo ?_|refine o_v (vaps encP [] (x :: xs)) ?_|refine sop ?_
    exact xAC ⟨.inr rfl, oOwn rfl⟩
theorem xRT {t : List PairL} (p : PairL) (hs : Srt t) (hl : t.length ≤ 100000000) : VC Tryz.prog 146 [.sh false (t.map encP), .agg (encP p)] [] (ownV ⟨0, 0⟩ ((putL t p).map encP)) [blkV 3 ((putL t p).map encP)] := by
  refine vcs vf146 ?_
  have pl := xJn (q := .sh false (t.map encP)) p.key hs Sl.sh hl
  have cl := xIV (xs := t) hl
  have hle := xOH p.key t
  have hmt : (t.map encP).length = t.length := List.length_map ..
  have pf := xKq (p := p) hs
  have pn := xPa (p := p) hs
  have hls := xQF (k := p.key) hs
  generalize hn : lbN t p.key = n at *
  repeat first|refine sgo ?_|refine cv0 pl ?_|refine cv cl ?_|refine sop ?_
  refine cnd (fun h => ?_) (fun h => xAA ?_)
  · obtain ⟨y, hy, _, _⟩ := hls h
    have hlt : n < t.length := (List.getElem?_eq_some_iff.1 hy).1
    rw [← pf h]
    repeat first|refine sgo ?_|refine o_v (vst encP p) ?_|refine sop ?_
    exact xAC ⟨.inr rfl, oOwn rfl⟩
  · have iv := xNs t p hmt.symm (by omega : n ≤ (t.map encP).length) (by omega)
    have hp := pn h
    have hi2 : xSc t n p = putL t p := hp
    rw [hi2] at iv
    have hpl : (putL t p).length = t.length + 1 := by rw [← hp]; simp; omega
    repeat first|refine sgo ?_|refine clf (lent := [⟨1, 16392⟩]) (rd := [⟨1, 49176⟩]) iv ?_|refine sop ?_
    exact xAC ⟨.inr rfl, oOwn rfl⟩
theorem xTp {q : PV} {t : List PairL} (p : PairL) (hs : Srt t) (hq : Sl q (t.map encP)) (hl : t.length ≤ 100000000) : VC Tryz.prog 146 [q, .agg (encP p)] [] (ownV ⟨0, 0⟩ ((putL t p).map encP)) [blkV 3 ((putL t p).map encP)] :=
  xFu (xRT p hs hl) (.cons (PLe.sl hq) (.cons (PLe.refl _) .nil)) (PLe.refl _)
theorem xTq {q : PV} {t : List PairL} (k : Str) (hs : Srt t) (hq : Sl q (t.map encP)) (hl : t.length ≤ 100000000) (hk : k.length ≤ 1000000000) : VC Tryz.prog 167 [q, .str k] [] (ownV ⟨0, 0⟩ ((delT t k).map encP)) [blkV 3 ((delT t k).map encP)] := by
  refine vcs vf167 ?_
  have h1 := xPl k hk
  have h2 := xKJ (q := q) (oneL k) hs hq hl
  rw [xNa] at h2
  repeat first|refine sgo ?_|refine cv0 h1 ?_|refine cv h2 ?_|refine sop ?_
  exact xAC ⟨.inr rfl, oOwn rfl⟩
end Go.Proofs
