/- Ta -/
import Derived.Test.YtlpjfoijjlmgeaaDoorMa
import Derived.Test.YtlpjfoijjlmgeaaDoorVD
import Derived.Test.YtlpjfoijjlmgeaaDoorPu
open Go.V Go.Pu
set_option linter.unusedVariables false
set_option linter.unusedSimpArgs false
set_option maxRecDepth 20000
namespace Go.Proofs
def vc66 := vcm Tryd.prog 66
theorem vf66 : VF Tryd.prog 66 = some (53, vc66, [.tmp 4]) := by kernel_rfl
abbrev encP (p : PairL) : List PV := [.str p.key, .str p.val, .int .i64 p.stamp]
theorem xOd (a b : Str) : (Op.bytesLess a b || a == b) = !Op.bytesLess b a := by
  have e : (!Op.bytesLess b a) = ble a b := rfl
  rw [e, Bool.eq_iff_iff, ble_iff]
  simp
set_option maxHeartbeats 1000000 in
theorem put_vc {q : PV} {xs : List PairL} {p : PairL} (hq : Sl q (xs.map encP)) (hl : xs.length ≤ 1000000000) : VC Tryd.prog 66 [q, .agg (encP p)] [] (ownV ⟨0, 0⟩ ((putL xs p).map encP)) [blkV 3 ((putL xs p).map encP)] := by
  refine vcs vf66 ?_
  repeat first|refine sgo ?_|refine sop ?_
  refine xAH (fun (g : Nat × List PairL × Bool) => [(0, q), (3, .ptr ⟨1, 0⟩ 1 0 0), (5, ownV ⟨1, 8192⟩ (g.2.1.map encP)), (6, .bool g.2.2), (7, .int .i64 g.1)])
    (fun g => [(⟨1, 0⟩, ⟨true, false, 3, [encP p]⟩), (⟨1, 8192⟩, blkV 3 (g.2.1.map encP))]) (fun g => xs.length - g.1)
    (fun g => g.1 ≤ xs.length ∧ g.2.1.length ≤ 2 * g.1 ∧ (xs.drop g.1).foldl (xBO p) g.2 = xs.foldl (xBO p) ([], false)) (0, [], false) goes ⟨by simp, by simp, rfl⟩ ?_
  rintro ⟨i, o, b⟩ ⟨hil, hol, hv⟩
  dsimp only at hil hol hv ⊢
  repeat first|refine sgo ?_|refine sop ?_
  refine cnd (fun h => xAA ?_) (fun h => xAF ?_)
  · have hlt : i < xs.length := by simpa using h
    obtain ⟨x, hx⟩ : ∃ x, xs[i]? = some x := ⟨_, List.getElem?_eq_getElem hlt⟩
    have hxe := gm (enc := encP) (n := (i : Int)) hx (by omega)
    rw [xA7 hx, List.foldl_cons] at hv
    repeat first|refine sgo ?_|refine sop ?_
    refine xB1 (fun hg => ?_) (fun hg => ?_)
    · repeat first|refine sgo ?_|refine sop ?_
      refine cnd (fun hc => ?_) (fun hc => xAA ?_)
      · rw [xOd] at hc
        repeat first|refine sgo ?_|refine o_v (vap encP p) ?_|refine sop ?_
        refine cnd (fun hd => ?_) (fun hd => xAA ?_)
        · repeat first|refine sgo ?_|refine o_v (vap encP x) ?_|refine sop ?_
          refine xNZ (i + 1, o ++ [p] ++ [x], true) (by simp only; omega) ⟨by simp only; omega, by simp only [List.length_append, List.length_cons, List.length_nil]; omega, ?_⟩ goes
          rw [← hv]
          simp only [xBO, hg, hc, hd, Bool.and_self, if_true]
        · repeat first|refine sgo ?_|refine sop ?_
          refine xNZ (i + 1, o ++ [p], true) (by simp only; omega) ⟨by simp only; omega, by simp only [List.length_append, List.length_cons, List.length_nil]; omega, ?_⟩ goes
          rw [← hv]
          simp only [xBO, hg, hc, hd, Bool.and_self, if_true, Bool.false_eq_true, if_false]
      · rw [xOd] at hc
        repeat first|refine sgo ?_|refine sop ?_
        refine cnd (fun hd => ?_) (fun hd => xAA ?_)
        · repeat first|refine sgo ?_|refine o_v (vap encP x) ?_|refine sop ?_
          refine xNZ (i + 1, o ++ [x], b) (by simp only; omega) ⟨by simp only; omega, by simp only [List.length_append, List.length_cons, List.length_nil]; omega, ?_⟩ goes
          rw [← hv]
          simp only [xBO, hg, hc, hd, Bool.and_false, if_true, Bool.false_eq_true, if_false]
        · repeat first|refine sgo ?_|refine sop ?_
          refine xNZ (i + 1, o, b) (by simp only; omega) ⟨by simp only; omega, by simp only; omega, ?_⟩ goes
          rw [← hv]
          simp only [xBO, hg, hc, hd, Bool.and_false, Bool.false_eq_true, if_false]
    · repeat first|refine sgo ?_|refine sop ?_
      refine cndf (xAA ?_)
      repeat first|refine sgo ?_|refine sop ?_
      refine cnd (fun hd => ?_) (fun hd => xAA ?_)
      · repeat first|refine sgo ?_|refine o_v (vap encP x) ?_|refine sop ?_
        refine xNZ (i + 1, o ++ [x], b) (by simp only; omega) ⟨by simp only; omega, by simp only [List.length_append, List.length_cons, List.length_nil]; omega, ?_⟩ goes
        rw [← hv]
        simp only [xBO, hg, hd, Bool.false_and, if_true, Bool.false_eq_true, if_false]
      · repeat first|refine sgo ?_|refine sop ?_
        refine xNZ (i + 1, o, b) (by simp only; omega) ⟨by simp only; omega, by simp only; omega, ?_⟩ goes
        rw [← hv]
        simp only [xBO, hg, hd, Bool.false_and, if_true, Bool.false_eq_true, if_false]
  · have : i = xs.length := by have : ¬ i < xs.length := by simpa using h
                               omega
    subst this
    rw [List.drop_length] at hv
    simp only [List.foldl_nil] at hv
    repeat first|refine sgo ?_|refine sop ?_
    refine cnd (fun hb => ?_) (fun hb => xAA ?_)
    · repeat first|refine sgo ?_|refine o_v (vap encP p) ?_|refine sop ?_
      refine xAC ⟨.inr rfl, oOwn ?_⟩
      simp only [putL, ← hv, (by simpa using hb : b = false), Bool.false_eq_true, if_false]
    · repeat first|refine sgo ?_|refine sop ?_
      refine xAC ⟨.inr rfl, oOwn ?_⟩
      simp only [putL, ← hv, (by simpa using hb : b = true), if_true]
end Go.Proofs
open Go.V Go.Pu
set_option linter.unusedVariables false
set_option linter.unusedSimpArgs false
set_option maxRecDepth 20000
namespace Go.Proofs
def zP : PairL := ⟨[], [], 0⟩
end Go.Proofs
open Go.V Go.Pu
set_option linter.unusedVariables false
set_option linter.unusedSimpArgs false
set_option maxRecDepth 20000
namespace Go.Proofs
def presL : List (List UInt8) := [[], [97, 47], [98, 47], [97, 47, 98, 47], [97, 47, 2], [99, 47]]
def preL (n : Nat) : List UInt8 := presL.getD (n % 6) []
theorem xOD (n : Nat) : (preL n).length ≤ 4 := by
  have h : n % 6 < 6 := Nat.mod_lt _ (by decide)
  unfold preL
  generalize n % 6 = m at h
  have : ∀ m, m < 6 → (presL.getD m []).length ≤ 4 := by decide
  exact this m h
theorem vslD {lvl site : Nat} {tf : Nat → Option PV} {hf : Bid → Option Blk} {x : VX} {lo : Option VX} {s : Str} (n : Nat) (hn : n ≤ s.length) (hx : ev tf x = some (.str s) := by rfl) (h1 : xAQ tf 0 lo = some (n : Int) := by rfl) : vop lvl site tf hf (.slstr x lo none) = some ⟨.str (s.drop n), [], []⟩ := by
  rw [xNe (a := n) (z := (s.length : Nat)) hx h1 rfl (by omega) (by omega) (by omega)]
  have e : (s.drop (n : Int).toNat).take (((s.length : Nat) : Int).toNat - (n : Int).toNat) = s.drop n := by
    rw [List.take_of_length_le (by simp)]; simp
  rw [e]
end Go.Proofs
open Go.V Go.Pu
set_option linter.unusedVariables false
set_option linter.unusedSimpArgs false
set_option maxRecDepth 20000
namespace Go.Proofs
end Go.Proofs
open Go.V Go.Pu
set_option linter.unusedVariables false
set_option linter.unusedSimpArgs false
set_option maxRecDepth 20000
namespace Go.Proofs
def mapN (f : PairL → PairL) (r : List PairL) (i : Nat) : List PairL := (r.take i).map f ++ r.drop i
theorem xQQ (f : PairL → PairL) (r : List PairL) (i : Nat) : (mapN f r i).length = r.length := by unfold mapN; simp; omega
theorem xQS {f : PairL → PairL} {r : List PairL} {i : Nat} {p : PairL} (h : r[i]? = some p) : (mapN f r i)[i]? = some p := by
  have hi := (List.getElem?_eq_some_iff.1 h).1
  unfold mapN
  rw [List.getElem?_append_right (by simp; omega)]
  simp only [List.length_map, List.length_take, Nat.min_eq_left (Nat.le_of_lt hi), Nat.sub_self, List.getElem?_drop, Nat.add_zero, h]
theorem xQP {f : PairL → PairL} {r : List PairL} {i : Nat} {p : PairL} (h : r[i]? = some p) : (mapN f r i).set i (f p) = mapN f r (i + 1) := by
  have hi := (List.getElem?_eq_some_iff.1 h).1
  unfold mapN
  rw [xA7 h, List.set_append_right _ _ (by simp; omega)]
  have e : i - (List.map f (r.take i)).length = 0 := by simp; omega
  rw [e, List.set_cons_zero, List.take_add_one, h]
  simp
theorem xQT (f : PairL → PairL) (r : List PairL) : mapN f r r.length = r.map f := by unfold mapN; simp
theorem xPt {α : Type} {l : List α} {i : Nat} {x : α} (h : l[i]? = some x) : l.set i x = l := by
  obtain ⟨hi, rfl⟩ := List.getElem?_eq_some_iff.1 h
  exact List.set_getElem_self hi
theorem xJr {g : Nat} {args : List PV} {l : List PairL} (h : VC Tryd.prog g args [] (ownV ⟨0, 0⟩ (l.map encP)) [blkV 3 (l.map encP)]) : VC Tryd.prog g args [] (.sh false (l.map encP)) [] := xGP h (xAV rfl rfl)
structure TabOk (N B : Nat) (t : List PairL) : Prop where
  s : Srt t
  l : t.length ≤ N
  k : ∀ p ∈ t, p.key.length ≤ B
theorem TabOk.mono {N B N' B' : Nat} {t : List PairL} (h : TabOk N B t) (hN : N ≤ N') (hB : B ≤ B') : TabOk N' B' t := ⟨h.s, Nat.le_trans h.l hN, fun p hp => Nat.le_trans (h.k p hp) hB⟩
theorem xPH (t : List PairL) (m : MsgL) : (xDS t m).length ≤ 2 * t.length := by
  have h := xE5 (xAx t (xAE m.to)) (xBx t m.fr m.to)
  have hdl : (xAx t (xAE m.to)).length ≤ t.length := List.length_filter_le ..
  have hml : (xBx t m.fr m.to).length ≤ t.length := by unfold xBx; rw [List.length_map]; exact List.length_filter_le ..
  unfold xDS; omega
end Go.Proofs
open Go.V Go.Pu
set_option linter.unusedVariables false
set_option linter.unusedSimpArgs false
set_option maxRecDepth 20000
namespace Go.Proofs
theorem xN9 {t : List PairL} {p x : PairL} (hs : Srt t) (hx : x ∈ putL t p) : x = p ∨ x ∈ t := by
  have h := Srt.find (xBC hs) hx
  rw [xB9 hs] at h
  split at h
  · left; cases h; rfl
  · right; exact xKk h
theorem xSB {t : List PairL} {p : PairL} (hs : Srt t) : (putL t p).length ≤ t.length + 1 := by
  cases hf : (xAM t p.key).isSome with
  | true => rw [← xOB hs hf]; simp
  | false => rw [← xSA hs hf]; simp; omega
theorem xPU {N B : Nat} {t : List PairL} (ht : TabOk N B t) (hN : 1 ≤ N) {m : MsgL} (hm : MsgLen 8 m) (h8 : 8 ≤ B) : TabOk (2 * N) (B + 8) (xC7 t m) := by
  have hs := ht.s
  have hl := ht.l
  have hk := ht.k
  have hcl := xPH t m
  have hck : ∀ p ∈ xDS t m, p.key.length ≤ B + 8 := by
    intro p hp
    unfold xDS at hp
    rcases xCm _ _ hp with h | h
    · have := hk p (List.mem_filter.1 h).1; omega
    · unfold xBx at h
      obtain ⟨q, hq, rfl⟩ := List.mem_map.1 h
      have h1 := hk q (List.mem_filter.1 hq).1
      have h2 := hm.to
      simp only [mvP, List.length_append, List.length_drop]
      omega
  refine ⟨xIB hs m, ?_, ?_⟩
  · unfold xC7
    repeat' split
    · have := xSB (p := ⟨m.key, m.val, m.n⟩) hs; omega
    · have := xSr t m.key; omega
    · have : (xAx t m.sp).length ≤ t.length := List.length_filter_le ..
      omega
    · rw [List.length_map]; omega
    · have : (xAx (xDS t m) (xAE m.fr)).length ≤ (xDS t m).length := List.length_filter_le ..
      omega
    · omega
  · unfold xC7
    repeat' split
    · intro p hp
      rcases xN9 hs hp with rfl | h
      · have := hm.key; simp only; omega
      · have := hk p h; omega
    · intro p hp; have := hk p (List.mem_filter.1 hp).1; omega
    · intro p hp; have := hk p (List.mem_filter.1 hp).1; omega
    · intro p hp
      obtain ⟨q, hq, rfl⟩ := List.mem_map.1 hp
      rw [xFY]; have := hk q hq; omega
    · intro p hp; exact hck p (List.mem_filter.1 hp).1
    · exact hck
theorem xLq : ∀ (l : List MsgL) {N B : Nat} {t : List PairL}, TabOk N B t → 1 ≤ N → 8 ≤ B → (∀ m ∈ l, MsgLen 8 m) → TabOk (2 ^ l.length * N) (B + 8 * l.length) (allT t l)
  | [], N, B, t, h, _, _, _ => by
    have e : allT t [] = t := rfl
    rw [e]; simpa using h
  | m :: l, N, B, t, h, hN, hB, hm => by
    have h1 := xPU h hN (hm m (by simp)) hB
    have h2 := xLq l h1 (by omega) (by omega) fun x hx => hm x (by simp [hx])
    refine h2.mono ?_ (by simp only [List.length_cons]; omega)
    rw [List.length_cons, Nat.pow_succ, Nat.mul_assoc]
    exact Nat.le_refl _
theorem xRC {a b : Nat} (h : a ≤ b) {N : Nat} : 2 ^ a * N ≤ 2 ^ b * N := Nat.mul_le_mul_right _ (Nat.pow_le_pow_right (by decide) h)
theorem inL_step {l : List SpanL} {j : Nat} {s : SpanL} (k : Str) (h : l[j]? = some s) : inL (l.take (j + 1)) k = (inL (l.take j) k || hasL s k) := by
  rw [List.take_add_one, h, Option.toList_some, xCG]; simp [inL]
theorem xFp {t : List PairL} {i : Nat} {y : PairL} (f : PairL → Bool) (hy : t[i]? = some y) : (t.take (i + 1)).filter f = if f y = true then (t.take i).filter f ++ [y] else (t.take i).filter f := by
  rw [List.take_add_one, hy, Option.toList_some, List.filter_append]
  cases h : f y <;> simp [h]
end Go.Proofs
open Go.V Go.Pu
set_option linter.unusedVariables false
set_option linter.unusedSimpArgs false
set_option maxRecDepth 20000
namespace Go.Proofs
def vc68 := vcm Tryd.prog 68
theorem vf68 : VF Tryd.prog 68 = some (29, vc68, [.tmp 4]) := by kernel_rfl
def vc67 := vcm Tryd.prog 67
theorem vf67 : VF Tryd.prog 67 = some (30, vc67, [.tmp 4]) := by kernel_rfl
def vc69 := vcm Tryd.prog 69
theorem vf69 : VF Tryd.prog 69 = some (18, vc69, [.tmp 6, .tmp 7]) := by kernel_rfl
def vc44 := vcm Tryd.prog 44
theorem vf44 : VF Tryd.prog 44 = some (121, vc44, [.tmp 4]) := by kernel_rfl
def vc26 := vcm Tryd.prog 26
theorem vf26 : VF Tryd.prog 26 = some (19, vc26, [.tmp 4]) := by kernel_rfl
theorem xJI (t : List PairL) (s : SpanL) : outT t [s] = xAx t s := by
  unfold outT xAx
  refine List.filter_congr fun p _ => ?_
  simp [inL]
theorem in_one (t : List PairL) (s : SpanL) : inT t [s] = xA8 t s := by
  unfold inT xA8
  refine List.filter_congr fun p _ => ?_
  simp [inL]
theorem xJF {t : List PairL} {d : List SpanL} (hl : t.length ≤ 100000000) (hd : d.length ≤ 1000) : VC Tryd.prog 67 [.sh false (t.map encP), .sh false (d.map encS)] [] (.sh false ((outT t d).map encP)) [] := by
  have hin := fun k => xQj (q := .sh false (d.map encS)) (l := d) k Sl.sh (Nat.le_trans hd (by decide))
  have hmt : (t.map encP).length = t.length := List.length_map ..
  refine xJr ?_
  refine vcs vf67 ?_
  repeat first|refine sgo ?_|refine sop ?_
  refine xAH (fun (g : Nat × List PairL) => [(0, .sh false (t.map encP)), (1, .sh false (d.map encS)), (5, ownV ⟨1, 8192⟩ (g.2.map encP)), (6, .int .i64 g.1)])
    (fun g => [(⟨1, 8192⟩, blkV 3 (g.2.map encP))]) (fun g => t.length - g.1)
    (fun g => g.1 ≤ t.length ∧ g.2.length ≤ g.1 ∧ g.2 = (t.take g.1).filter (fun p => !inL d p.key)) (0, []) xAT ⟨Nat.zero_le _, Nat.le_refl _, rfl⟩ ?_
  rintro ⟨i, o⟩ ⟨hi, hol, ho⟩
  dsimp only at hi hol ho ⊢
  repeat first|refine sgo ?_|refine sop ?_
  refine cnd (fun h => xAA ?_) (fun h => xAF ?_)
  · have hlt : i < t.length := by have h' := of_decide_eq_true h; omega
    have hlt2 : (i : Int) < ((t.map encP).length : Nat) := by omega
    obtain ⟨y, hy⟩ : ∃ x, t[i]? = some x := ⟨_, List.getElem?_eq_getElem hlt⟩
    have hye := gm (enc := encP) (n := (i : Int)) hy (by omega)
    have hst := xFp (fun p => !inL d p.key) hy
    rw [← ho] at hst
    repeat first|refine sgo ?_|refine cv0 (hin y.key) ?_|refine sop ?_
    refine cnd (fun h => ?_) (fun h => xAA ?_)
    · rw [if_pos h] at hst
      repeat first|refine sgo ?_|refine o_v (vap encP y) ?_|refine sop ?_
      exact agn (Q := fun _ _ => True) (i + 1, o ++ [y]) ⟨by simp only; omega, by simp only [List.length_append, List.length_cons, List.length_nil]; omega, hst.symm⟩ xAT
    · rw [if_neg (by simp [h])] at hst
      repeat first|refine sgo ?_|refine sop ?_
      exact agn (Q := fun _ _ => True) (i + 1, o) ⟨by simp only; omega, by simp only; omega, hst.symm⟩ xAT
  · have hge : i = t.length := by have h' := of_decide_eq_false h; omega
    subst hge
    rw [List.take_length] at ho
    repeat first|refine sgo ?_|refine sop ?_
    exact xAC ⟨.inr rfl, oOwn (congrArg (List.map encP) ho)⟩
theorem pin_vc {t : List PairL} {d : List SpanL} (hl : t.length ≤ 100000000) (hd : d.length ≤ 1000) : VC Tryd.prog 68 [.sh false (t.map encP), .sh false (d.map encS)] [] (.sh false ((inT t d).map encP)) [] := by
  have hin := fun k => xQj (q := .sh false (d.map encS)) (l := d) k Sl.sh (Nat.le_trans hd (by decide))
  have hmt : (t.map encP).length = t.length := List.length_map ..
  refine xJr ?_
  refine vcs vf68 ?_
  repeat first|refine sgo ?_|refine sop ?_
  refine xAH (fun (g : Nat × List PairL) => [(0, .sh false (t.map encP)), (1, .sh false (d.map encS)), (5, ownV ⟨1, 8192⟩ (g.2.map encP)), (6, .int .i64 g.1)])
    (fun g => [(⟨1, 8192⟩, blkV 3 (g.2.map encP))]) (fun g => t.length - g.1)
    (fun g => g.1 ≤ t.length ∧ g.2.length ≤ g.1 ∧ g.2 = (t.take g.1).filter (fun p => inL d p.key)) (0, []) xAT ⟨Nat.zero_le _, Nat.le_refl _, rfl⟩ ?_
  rintro ⟨i, o⟩ ⟨hi, hol, ho⟩
  dsimp only at hi hol ho ⊢
  repeat first|refine sgo ?_|refine sop ?_
  refine cnd (fun h => xAA ?_) (fun h => xAF ?_)
  · have hlt : i < t.length := by have h' := of_decide_eq_true h; omega
    have hlt2 : (i : Int) < ((t.map encP).length : Nat) := by omega
    obtain ⟨y, hy⟩ : ∃ x, t[i]? = some x := ⟨_, List.getElem?_eq_getElem hlt⟩
    have hye := gm (enc := encP) (n := (i : Int)) hy (by omega)
    have hst := xFp (fun p => inL d p.key) hy
    rw [← ho] at hst
    repeat first|refine sgo ?_|refine cv0 (hin y.key) ?_|refine sop ?_
    refine cnd (fun h => ?_) (fun h => xAA ?_)
    · rw [if_pos h] at hst
      repeat first|refine sgo ?_|refine o_v (vap encP y) ?_|refine sop ?_
      exact agn (Q := fun _ _ => True) (i + 1, o ++ [y]) ⟨by simp only; omega, by simp only [List.length_append, List.length_cons, List.length_nil]; omega, hst.symm⟩ xAT
    · rw [if_neg (by simp [h])] at hst
      repeat first|refine sgo ?_|refine sop ?_
      exact agn (Q := fun _ _ => True) (i + 1, o) ⟨by simp only; omega, by simp only; omega, hst.symm⟩ xAT
  · have hge : i = t.length := by have h' := of_decide_eq_false h; omega
    subst hge
    rw [List.take_length] at ho
    repeat first|refine sgo ?_|refine sop ?_
    exact xAC ⟨.inr rfl, oOwn (congrArg (List.map encP) ho)⟩
theorem xKA (k f t : Str) (hk : k.length ≤ 1000000000) (hf : f.length ≤ 1000000000) (ht : t.length ≤ 1000000000) : VC Tryd.prog 69 [.str k, .str f, .str t] [] (.tup [.str (xCu k f t).1, .bool (xCu k f t).2]) [] := by
  have hb := xDU k f hk hf
  unfold xCu
  generalize hbe : xAD k f = b at hb ⊢
  cases b
  · refine xCC vf69 ?_ (Nat.le_of_ble_eq_true rfl) (by intro vs h; cases h; simp)
    repeat first|refine sgo ?_|refine cv0 hb ?_|refine sop ?_
    refine cndt ?_
    repeat first|refine sgo ?_|refine sop ?_
    exact xAC ⟨.inr rfl, oAny rfl⟩
  · have hlen : f.length ≤ k.length := by obtain ⟨r, rfl⟩ := begins_iff.1 hbe; simp
    refine xCC vf69 ?_ (Nat.le_of_ble_eq_true rfl) (by intro vs h; cases h; simp)
    repeat first|refine sgo ?_|refine cv0 hb ?_|refine sop ?_
    refine cndf (xAA ?_)
    repeat first|refine sgo ?_|refine o_v0 (vslD f.length hlen) ?_|refine sop ?_
    exact xAC ⟨.inr rfl, oAny rfl⟩
theorem putC {q : PV} {xs : List PairL} {p : PairL} (hq : Sl q (xs.map encP)) (hl : xs.length ≤ 1000000000) : VC Tryd.prog 66 [q, .agg (encP p)] [] (.sh false ((putL xs p).map encP)) [] := xJr (put_vc hq hl)
theorem puts_step {l : List PairL} {i : Nat} {p : PairL} (h : l[i]? = some p) (o : List PairL) : (l.take (i + 1)).foldl putL o = putL ((l.take i).foldl putL o) p := by
  rw [List.take_add_one, h, Option.toList_some, List.foldl_append]; rfl
theorem xGS : ∀ (l o : List PairL), (l.foldl putL o).length ≤ o.length + l.length
  | [], o => by simp
  | p :: l, o => by
    have h1 := xGS l (putL o p)
    have h2 := xP2 o p
    rw [List.foldl_cons, List.length_cons]; omega
set_option maxHeartbeats 4000000 in
theorem xN8 {t : List PairL} {m : MsgL} (ht : TabOk 49000000 100000 t) (hm : MsgOk m) (hl : MsgLen 8 m) : VC Tryd.prog 44 [.sh false (t.map encP), .agg (encM m)] [] (.sh false ((xG4 t m).map encP)) [] := by
  have hk := hm.k
  have hn := ht.l
  have h1 := putC (q := .sh false (t.map encP)) (p := ⟨m.key, m.val, m.n⟩) Sl.sh (by omega)
  have h2 := xJF (t := t) (d := [oneL m.key]) (by omega) (by simp)
  have h2o := xLE m.key (by have := hl.key; omega)
  rw [xJI, xQn] at h2
  have h3 := xJF (t := t) (d := [m.sp]) (by omega) (by simp)
  rw [xJI] at h3
  have p1 := xCh m.to (by have := hl.to; omega)
  have p2 := xCh m.fr (by have := hl.fr; omega)
  have h4 := xJF (t := t) (d := [xAE m.to]) (by omega) (by simp)
  rw [xJI] at h4
  have hdl : (xAx t (xAE m.to)).length ≤ t.length := List.length_filter_le ..
  have h5 := xJF (t := xAx t (xAE m.to)) (d := [xAE m.fr]) (by omega) (by simp)
  rw [xJI] at h5
  have hdl2 : (xAx (xAx t (xAE m.to)) (xAE m.fr)).length ≤ t.length := Nat.le_trans (List.length_filter_le ..) hdl
  have h6 := pin_vc (t := t) (d := [xAE m.fr]) (by omega) (by simp)
  rw [in_one, xKF] at h6
  have hsl : (srcL t m.fr).length ≤ t.length := List.length_filter_le ..
  have hsk : ∀ p ∈ srcL t m.fr, p.key.length ≤ 100000 ∧ xAD p.key m.fr = true := fun p hp => ⟨ht.k p (List.mem_filter.1 hp).1, xEO hp⟩
  have hmt : (t.map encP).length = t.length := List.length_map ..
  have hfl := hl.fr
  have htl := hl.to
  have hloop : ∀ (k : Int) (base : List PairL), base.length ≤ t.length → xBx t m.fr m.to = (srcL t m.fr).map (mvP m.fr m.to) := fun _ _ _ => rfl
  unfold xG4 xLF xBx
  generalize srcL t m.fr = src at *
  have hms : (src.map encP).length = src.length := List.length_map ..
  clear hl hm
  obtain ⟨k, key, val, sp, fr, to, n⟩ := m
  dsimp only at *
  rcases six hk with rfl | rfl | rfl | rfl | rfl | rfl
  · rw [if_pos rfl]
    refine vcs vf44 ?_
    repeat first|refine sgo ?_|refine sop ?_
    refine cndt ?_
    repeat first|refine sgo ?_|refine cf h1 ?_|refine sop ?_
    exact xAC ⟨.inr rfl, oAny rfl⟩
  · rw [if_neg (by decide), if_pos rfl]
    refine vcs vf44 ?_
    repeat first|refine sgo ?_|refine sop ?_
    refine cndf ?_
    repeat first|refine sgo ?_|refine sop ?_
    refine cndt ?_
    repeat first|refine sgo ?_|refine cv0 h2o ?_|refine cf h2 ?_|refine sop ?_
    exact xAC ⟨.inr rfl, oAny rfl⟩
  · rw [if_neg (by decide), if_neg (by decide), if_pos rfl]
    refine vcs vf44 ?_
    repeat first|refine sgo ?_|refine sop ?_
    refine cndf ?_
    repeat first|refine sgo ?_|refine sop ?_
    refine cndf ?_
    repeat first|refine sgo ?_|refine sop ?_
    refine cndt ?_
    repeat first|refine sgo ?_|refine cf h3 ?_|refine sop ?_
    exact xAC ⟨.inr rfl, oAny rfl⟩
  · rw [if_neg (by decide), if_neg (by decide), if_neg (by decide), if_neg (by decide)]
    (first | rw [if_pos rfl] | rw [if_neg (by decide)])
    refine vcs vf44 ?_
    repeat first|refine sgo ?_|refine sop ?_
    refine cndf ?_
    repeat first|refine sgo ?_|refine sop ?_
    refine cndf ?_
    repeat first|refine sgo ?_|refine sop ?_
    refine cndf ?_
    repeat first|refine sgo ?_|refine sop ?_
    refine cndf (xAA ?_)
    repeat first|refine sgo ?_|refine cv0 p1 ?_|refine cf h4 ?_|refine cv0 p2 ?_|refine cf h6 ?_|refine sop ?_
    (first | (refine cndt ?_; skip) | refine cndf (xAA ?_))
    repeat first|refine sgo ?_|refine cv0 p2 ?_|refine cf h5 ?_|refine sop ?_
    refine xAH (fun (g : Nat) => [(3, .ptr ⟨1, 0⟩ 1 0 0), (7, .sh false (((src.take g).map (mvP fr to)).foldl putL (if (4 : Int) = 4 then xAx (xAx t (xAE to)) (xAE fr) else xAx t (xAE to)) |>.map encP)), (8, .sh false (src.map encP)), (9, .int .i64 g)])
      (fun g => [(⟨1, 0⟩, ⟨true, false, 8, [[.int .i64 4, .str key, .str val, .str sp.lo, .str sp.hi, .str fr, .str to, .int .i64 n]]⟩)]) (fun g => src.length - g) (fun g => g ≤ src.length) 0 xAT (Nat.zero_le _) ?_
    intro i hi
    repeat first|refine sgo ?_|refine sop ?_
    refine cnd (fun h => xAA ?_) (fun h => xAF ?_)
    · have hlt : i < src.length := by have h' := of_decide_eq_true h; omega
      obtain ⟨p, hp⟩ : ∃ x, src[i]? = some x := ⟨_, List.getElem?_eq_getElem hlt⟩
      have hpe := gm (enc := encP) (n := (i : Int)) hp (by omega)
      have hlt2 : (i : Int) < ((src.map encP).length : Nat) := by omega
      obtain ⟨hpk, hpb⟩ := hsk p (List.mem_of_getElem? hp)
      have hmv := xKA p.key fr to (by omega) (by omega) (by omega)
      unfold xCu at hmv
      rw [if_pos hpb] at hmv
      have hst : ∀ o : List PairL, ((src.take (i + 1)).map (mvP fr to)).foldl putL o = putL (((src.take i).map (mvP fr to)).foldl putL o) (mvP fr to p) := fun o => by
        rw [List.take_add_one, hp, Option.toList_some, List.map_append, List.foldl_append]; rfl
      have hbl : (if (4 : Int) = 4 then xAx (xAx t (xAE to)) (xAE fr) else xAx t (xAE to)).length ≤ t.length := by split <;> assumption
      generalize (if (4 : Int) = 4 then xAx (xAx t (xAE to)) (xAE fr) else xAx t (xAE to)) = base at *
      have hpl := xGS ((src.take i).map (mvP fr to)) base
      rw [List.length_map, List.length_take] at hpl
      have hpu := putC (q := .sh false ((((src.take i).map (mvP fr to)).foldl putL base).map encP)) (p := mvP fr to p) Sl.sh (by omega)
      rw [← hst] at hpu
      repeat first|refine sgo ?_|refine cv0 hmv ?_|refine cf hpu ?_|refine sop ?_
      exact agn (Q := fun _ _ => True) (i + 1) (by omega) xAT
    · have hge : i = src.length := by have h' := of_decide_eq_false h; omega
      subst hge
      rw [List.take_length]
      repeat first|refine sgo ?_|refine sop ?_
      exact xAC ⟨.inr rfl, oAny rfl⟩
  · rw [if_neg (by decide), if_neg (by decide), if_neg (by decide), if_neg (by decide)]
    (first | rw [if_pos rfl] | rw [if_neg (by decide)])
    refine vcs vf44 ?_
    repeat first|refine sgo ?_|refine sop ?_
    refine cndf ?_
    repeat first|refine sgo ?_|refine sop ?_
    refine cndf ?_
    repeat first|refine sgo ?_|refine sop ?_
    refine cndf ?_
    repeat first|refine sgo ?_|refine sop ?_
    refine cndf (xAA ?_)
    repeat first|refine sgo ?_|refine cv0 p1 ?_|refine cf h4 ?_|refine cv0 p2 ?_|refine cf h6 ?_|refine sop ?_
    (first | (refine cndt ?_; skip) | refine cndf (xAA ?_))
    repeat first|refine sgo ?_|refine cv0 p2 ?_|refine cf h5 ?_|refine sop ?_
    refine xAH (fun (g : Nat) => [(3, .ptr ⟨1, 0⟩ 1 0 0), (7, .sh false (((src.take g).map (mvP fr to)).foldl putL (if (5 : Int) = 4 then xAx (xAx t (xAE to)) (xAE fr) else xAx t (xAE to)) |>.map encP)), (8, .sh false (src.map encP)), (9, .int .i64 g)])
      (fun g => [(⟨1, 0⟩, ⟨true, false, 8, [[.int .i64 5, .str key, .str val, .str sp.lo, .str sp.hi, .str fr, .str to, .int .i64 n]]⟩)]) (fun g => src.length - g) (fun g => g ≤ src.length) 0 xAT (Nat.zero_le _) ?_
    intro i hi
    repeat first|refine sgo ?_|refine sop ?_
    refine cnd (fun h => xAA ?_) (fun h => xAF ?_)
    · have hlt : i < src.length := by have h' := of_decide_eq_true h; omega
      obtain ⟨p, hp⟩ : ∃ x, src[i]? = some x := ⟨_, List.getElem?_eq_getElem hlt⟩
      have hpe := gm (enc := encP) (n := (i : Int)) hp (by omega)
      have hlt2 : (i : Int) < ((src.map encP).length : Nat) := by omega
      obtain ⟨hpk, hpb⟩ := hsk p (List.mem_of_getElem? hp)
      have hmv := xKA p.key fr to (by omega) (by omega) (by omega)
      unfold xCu at hmv
      rw [if_pos hpb] at hmv
      have hst : ∀ o : List PairL, ((src.take (i + 1)).map (mvP fr to)).foldl putL o = putL (((src.take i).map (mvP fr to)).foldl putL o) (mvP fr to p) := fun o => by
        rw [List.take_add_one, hp, Option.toList_some, List.map_append, List.foldl_append]; rfl
      have hbl : (if (5 : Int) = 4 then xAx (xAx t (xAE to)) (xAE fr) else xAx t (xAE to)).length ≤ t.length := by split <;> assumption
      generalize (if (5 : Int) = 4 then xAx (xAx t (xAE to)) (xAE fr) else xAx t (xAE to)) = base at *
      have hpl := xGS ((src.take i).map (mvP fr to)) base
      rw [List.length_map, List.length_take] at hpl
      have hpu := putC (q := .sh false ((((src.take i).map (mvP fr to)).foldl putL base).map encP)) (p := mvP fr to p) Sl.sh (by omega)
      rw [← hst] at hpu
      repeat first|refine sgo ?_|refine cv0 hmv ?_|refine cf hpu ?_|refine sop ?_
      exact agn (Q := fun _ _ => True) (i + 1) (by omega) xAT
    · have hge : i = src.length := by have h' := of_decide_eq_false h; omega
      subst hge
      rw [List.take_length]
      repeat first|refine sgo ?_|refine sop ?_
      exact xAC ⟨.inr rfl, oAny rfl⟩
  · rw [if_neg (by decide), if_neg (by decide), if_neg (by decide), if_pos rfl]
    refine xJr ?_
    refine vcs vf44 ?_
    repeat first|refine sgo ?_|refine sop ?_
    refine cndf ?_
    repeat first|refine sgo ?_|refine sop ?_
    refine cndf ?_
    repeat first|refine sgo ?_|refine sop ?_
    refine cndf ?_
    repeat first|refine sgo ?_|refine sop ?_
    refine cndt ?_
    repeat first|refine sgo ?_|refine o_v (vaps encP [] t) ?_|refine sop ?_
    refine xAH (fun (g : Nat × List PairL) => [(3, .ptr ⟨1, 0⟩ 1 0 0), (5, .own ⟨1, 73728⟩ (t.map encP).length 0 (t.map encP).length), (6, .int .i64 g.1)])
      (fun g => [(⟨1, 0⟩, ⟨true, false, 8, [[.int .i64 6, .str key, .str val, .str sp.lo, .str sp.hi, .str fr, .str to, .int .i64 n]]⟩), (⟨1, 73728⟩, blkV 3 (g.2.map encP))]) (fun g => t.length - g.1)
      (fun g => g.1 ≤ t.length ∧ g.2 = mapN (xDn ⟨6, key, val, sp, fr, to, n⟩) t g.1) (0, t) xAT ⟨Nat.zero_le _, rfl⟩ ?_
    rintro ⟨i, zs⟩ ⟨hi, hz⟩
    dsimp only at hi hz ⊢
    have hzl : zs.length = t.length := by rw [hz]; exact xQQ _ _ _
    have hzm : (zs.map encP).length = t.length := by rw [List.length_map]; exact hzl
    repeat first|refine sgo ?_|refine sop ?_
    refine cnd (fun h => xAA ?_) (fun h => xAF ?_)
    · have hlt : i < t.length := by have h' := of_decide_eq_true h; omega
      obtain ⟨p, hp⟩ : ∃ x, t[i]? = some x := ⟨_, List.getElem?_eq_getElem hlt⟩
      have hzp : zs[((i : Nat) : Int).toNat]? = some p := by rw [hz]; exact xQS hp
      have hpe : (blkV 3 (zs.map encP)).els[((i : Nat) : Int).toNat]? = some (encP p) := by
        show (zs.map encP)[_]? = _
        rw [List.getElem?_map, hzp]; rfl
      have hset : zs.set ((i : Nat) : Int).toNat (xDn ⟨6, key, val, sp, fr, to, n⟩ p) = mapN (xDn ⟨6, key, val, sp, fr, to, n⟩) t (i + 1) := by rw [hz]; exact xQP hp
      repeat first|refine sgo ?_|refine cv0 (xI9 sp p.key) ?_|refine sop ?_
      refine cnd (fun h => ?_) (fun h => xAA ?_)
      · have hst : xDn ⟨6, key, val, sp, fr, to, n⟩ p = { p with stamp := n } := by unfold xDn; rw [if_pos h]
        rw [hst] at hset
        repeat first|refine sgo ?_|refine o_v (vstf encP ({ p with stamp := n } : PairL) hzp) ?_|refine sop ?_
        exact agn (Q := fun _ _ => True) (i + 1, _) ⟨by simp only; omega, hset⟩ xAT
      · have hst : xDn ⟨6, key, val, sp, fr, to, n⟩ p = p := by unfold xDn; rw [if_neg (by simp [h])]
        rw [hst, xPt hzp] at hset
        repeat first|refine sgo ?_|refine sop ?_
        exact agn (Q := fun _ _ => True) (i + 1, zs) ⟨by simp only; omega, hset⟩ xAT
    · have hge : i = t.length := by have h' := of_decide_eq_false h; omega
      subst hge
      rw [xQT] at hz
      repeat first|refine sgo ?_|refine sop ?_
      exact xAC ⟨.inr rfl, oOwn (congrArg (List.map encP) hz)⟩
structure RawL where
  x : Nat
  y : Nat
  z : Nat
  hx : x < 256
  hy : y < 256
  hz : z < 256
abbrev encR (r : RawL) : List PV := [.int .u8 r.x, .int .u8 r.y, .int .u8 r.z]
def xSF (r : RawL) : PairL := ⟨keyM r.x, valM r.y, r.z % 8⟩
def xLw (l : List RawL) (n : Nat) : List PairL := ((l.take n).map xSF).foldl putL []
theorem table_srt (l : List RawL) (n : Nat) : Srt (xLw l n) := by
  have key : ∀ (l t : List PairL), Srt t → Srt (l.foldl putL t) := by
    intro l
    induction l with
    | nil => intro t h; exact h
    | cons x l ih => intro t h; exact ih _ (xBC h)
  exact key _ _ List.Pairwise.nil
theorem table_len (l : List RawL) (n : Nat) : (xLw l n).length ≤ n := by
  have := xGS ((l.take n).map xSF) []
  rw [List.length_map, List.length_take] at this
  unfold xLw
  simp only [List.length_nil] at this; omega
theorem table_key (l : List RawL) (n : Nat) : ∀ p ∈ xLw l n, p.key.length ≤ 8 := by
  have key : ∀ (l t : List PairL), (∀ p ∈ l, p.key.length ≤ 8) → (∀ p ∈ t, p.key.length ≤ 8) → ∀ p ∈ l.foldl putL t, p.key.length ≤ 8 := by
    intro l
    induction l with
    | nil => intro t _ h; exact h
    | cons x l ih =>
      intro t h1 h
      refine ih _ (fun p hp => h1 p (by simp [hp])) (fun p hp => ?_)
      rw [xFc] at hp
      rcases xJd hp with rfl | hp
      · exact h1 p (by simp)
      · exact h p hp
  refine key _ _ (fun p hp => ?_) (by simp)
  obtain ⟨r, _, rfl⟩ := List.mem_map.1 hp
  have := xJY r.x
  simp only [xSF]; omega
end Go.Proofs
