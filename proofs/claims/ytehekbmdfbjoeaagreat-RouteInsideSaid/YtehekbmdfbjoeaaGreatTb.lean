/- Tb -/
import Derived.Test.YtehekbmdfbjoeaaGreatTa
import Derived.Test.YtehekbmdfbjoeaaGreatPu
import Derived.Test.YtehekbmdfbjoeaaGreatFa
import Derived.Test.YtehekbmdfbjoeaaGreatFb
open Go.V Go.Pu
set_option linter.unusedVariables false
set_option linter.unusedSimpArgs false
set_option maxRecDepth 20000
namespace Go.Proofs
def vc189 := vcm Tryz.prog 189
theorem vf189 : VF Tryz.prog 189 = some (36, vc189, [.tmp 6]) := by kernel_rfl
def vc140 := vcm Tryz.prog 140
theorem vf140 : VF Tryz.prog 140 = some (14, vc140, [.tmp 4]) := by kernel_rfl
def vc161 := vcm Tryz.prog 161
theorem vf161 : VF Tryz.prog 161 = some (9, vc161, [.tmp 4]) := by kernel_rfl
def vc172 := vcm Tryz.prog 172
theorem vf172 : VF Tryz.prog 172 = some (9, vc172, [.tmp 4]) := by kernel_rfl
def vc179 := vcm Tryz.prog 179
theorem vf179 : VF Tryz.prog 179 = some (12, vc179, [.tmp 4]) := by kernel_rfl
def vc185 := vcm Tryz.prog 185
theorem vf185 : VF Tryz.prog 185 = some (17, vc185, [.tmp 4]) := by kernel_rfl
def vc201 := vcm Tryz.prog 201
theorem vf201 : VF Tryz.prog 201 = some (30, vc201, [.tmp 4]) := by kernel_rfl
def vc67 := vcm Tryz.prog 67
theorem vf67 : VF Tryz.prog 67 = some (14, vc67, [.tmp 4]) := by kernel_rfl
def vc35 := vcm Tryz.prog 35
theorem vf35 : VF Tryz.prog 35 = some (18, vc35, [.tmp 4]) := by kernel_rfl
def mapN (f : PairL → PairL) (r : List PairL) (i : Nat) : List PairL := (r.take i).map f ++ r.drop i
theorem xJw (f : PairL → PairL) (r : List PairL) (i : Nat) : (mapN f r i).length = r.length := by unfold mapN; simp; omega
theorem xJx {f : PairL → PairL} {r : List PairL} {i : Nat} {p : PairL} (h : r[i]? = some p) : (mapN f r i)[i]? = some p := by
  have hi := (List.getElem?_eq_some_iff.1 h).1
  unfold mapN
  rw [List.getElem?_append_right (by simp; omega)]
  simp only [List.length_map, List.length_take, Nat.min_eq_left (Nat.le_of_lt hi), Nat.sub_self, List.getElem?_drop, Nat.add_zero, h]
theorem xJv {f : PairL → PairL} {r : List PairL} {i : Nat} {p : PairL} (h : r[i]? = some p) : (mapN f r i).set i (f p) = mapN f r (i + 1) := by
  have hi := (List.getElem?_eq_some_iff.1 h).1
  unfold mapN
  rw [xAt h, List.set_append_right _ _ (by simp; omega)]
  have e : i - (List.map f (r.take i)).length = 0 := by simp; omega
  rw [e, List.set_cons_zero, List.take_add_one, h]
  simp
theorem xJy (f : PairL → PairL) (r : List PairL) : mapN f r r.length = r.map f := by unfold mapN; simp
theorem xMi {α : Type} {l : List α} {i : Nat} {x : α} (h : l[i]? = some x) : l.set i x = l := by
  obtain ⟨hi, rfl⟩ := List.getElem?_eq_some_iff.1 h
  exact List.set_getElem_self hi
theorem xDZ {g : Nat} {args : List PV} {l : List PairL} (h : VC Tryz.prog g args [] (ownV ⟨0, 0⟩ (l.map encP)) [blkV 3 (l.map encP)]) : VC Tryz.prog g args [] (.sh false (l.map encP)) [] := xEp h (xAa rfl rfl)
set_option maxHeartbeats 1000000 in
theorem xOu {t : List PairL} (f to : Str) (hs : Srt t) (hl : t.length ≤ 100000000) (hk : ∀ p ∈ t, p.key.length ≤ 100000) (hf : f.length ≤ 100000) (hto : to.length ≤ 100000) : VC Tryz.prog 189 [.sh false (t.map encP), .str f, .str to] [] (ownV ⟨0, 0⟩ ((xBV t f to).map encP)) [blkV 3 ((xBV t f to).map encP)] := by
  refine vcs vf189 ?_
  have hp1 := xCe f (by omega)
  have hr1 := xRp (q := .sh false (t.map encP)) (xAH f) hs Sl.sh (by omega)
  rw [xGW] at hr1
  have hrl : (srcL t f).length ≤ t.length := List.length_filter_le ..
  have hrk : ∀ p ∈ srcL t f, p.key.length ≤ 100000 ∧ xAF p.key f = true := fun p hp => ⟨hk p (List.mem_filter.1 hp).1, xDb hp⟩
  have hfin : xBV t f to = (srcL t f).map (mvP f to) := rfl
  rw [hfin]
  generalize srcL t f = r at *
  have hmr : (r.map encP).length = r.length := List.length_map ..
  have cl := xIV (xs := r) (by omega)
  repeat first|refine sgo ?_|refine cv0 hp1 ?_|refine cf hr1 ?_|refine cv cl ?_|refine sop ?_
  refine xAE (fun (g : Nat × List PairL) => [(1, .str f), (2, .str to), (7, .own ⟨1, 8224⟩ (r.map encP).length 0 (r.map encP).length), (15, .int .i64 (r.map encP).length), (16, .int .i64 g.1)])
    (fun g => [(⟨1, 8224⟩, blkV 3 (g.2.map encP))]) (fun g => r.length - g.1)
    (fun g => g.1 ≤ r.length ∧ g.2 = mapN (mvP f to) r g.1) (0, r) goes ⟨Nat.zero_le _, rfl⟩ ?_
  rintro ⟨i, zs⟩ ⟨hi, hz⟩
  dsimp only at hi hz ⊢
  have hzl : zs.length = r.length := by rw [hz]; exact xJw _ _ _
  have hzm : (zs.map encP).length = r.length := by rw [List.length_map]; exact hzl
  repeat first|refine sgo ?_|refine sop ?_
  refine cnd (fun h => xAA ?_) (fun h => xAD ?_)
  · have hlt : i < r.length := by have h' := of_decide_eq_true h; omega
    obtain ⟨p, hp⟩ : ∃ x, r[i]? = some x := ⟨_, List.getElem?_eq_getElem hlt⟩
    obtain ⟨hpk, hpb⟩ := hrk p (List.mem_of_getElem? hp)
    have hzp : zs[((i : Nat) : Int).toNat]? = some p := by rw [hz]; exact xJx hp
    have hpe : (blkV 3 (zs.map encP)).els[((i : Nat) : Int).toNat]? = some (encP p) := by
      show (zs.map encP)[_]? = _
      rw [List.getElem?_map, hzp]; rfl
    have hset : zs.set ((i : Nat) : Int).toNat (mvP f to p) = mapN (mvP f to) r (i + 1) := by rw [hz]; exact xJv hp
    have hmv := xSF p.key f to (by omega) (by omega) (by omega)
    unfold xDO at hmv
    rw [if_pos hpb] at hmv
    repeat first|refine sgo ?_|refine cv0 hmv ?_|refine o_v (vstf encP (mvP f to p) hzp) ?_|refine sop ?_
    exact agn (i + 1, _) ⟨by simp only; omega, hset⟩ goes
  · have hge : i = r.length := by have h' := of_decide_eq_false h; omega
    subst hge
    rw [xJy] at hz
    repeat first|refine sgo ?_|refine sop ?_
    exact xAC ⟨.inr rfl, oOwn (congrArg (List.map encP) hz)⟩
theorem xVL {q : PV} {t : List PairL} {m : MsgL} (hs : Srt t) (hq : Sl q (t.map encP)) (hl : t.length ≤ 100000000) : VC Tryz.prog 140 [.agg (encM m), q] [] (.sh false ((putL t ⟨m.key, m.val, m.n⟩).map encP)) [] := by
  have h := xDZ (xTp (q := q) ⟨m.key, m.val, m.n⟩ hs hq hl)
  refine vcs vf140 ?_
  repeat first|refine sgo ?_|refine cf h ?_|refine sop ?_
  exact xAC ⟨.inr rfl, oAny rfl⟩
theorem xVN {q : PV} {t : List PairL} {m : MsgL} (hs : Srt t) (hq : Sl q (t.map encP)) (hl : t.length ≤ 100000000) (hm : MsgSz m) : VC Tryz.prog 161 [.agg (encM m), q] [] (.sh false ((delT t m.key).map encP)) [] := by
  have h := xDZ (xTq (q := q) m.key hs hq hl (by have := hm.key; omega))
  refine vcs vf161 ?_
  repeat first|refine sgo ?_|refine cf h ?_|refine sop ?_
  exact xAC ⟨.inr rfl, oAny rfl⟩
theorem xSy {q : PV} {t : List PairL} {m : MsgL} (hs : Srt t) (hq : Sl q (t.map encP)) (hl : t.length ≤ 100000000) : VC Tryz.prog 172 [.agg (encM m), q] [] (.sh false ((xAv t m.sp).map encP)) [] := by
  have h := xDZ (xKJ (q := q) m.sp hs hq hl)
  refine vcs vf172 ?_
  repeat first|refine sgo ?_|refine cf h ?_|refine sop ?_
  exact xAC ⟨.inr rfl, oAny rfl⟩
structure TabOk (N B : Nat) (t : List PairL) : Prop where
  s : Srt t
  l : t.length ≤ N
  k : ∀ p ∈ t, p.key.length ≤ B
theorem TabOk.mono {N B N' B' : Nat} {t : List PairL} (h : TabOk N B t) (hN : N ≤ N') (hB : B ≤ B') : TabOk N' B' t := ⟨h.s, Nat.le_trans h.l hN, fun p hp => Nat.le_trans (h.k p hp) hB⟩
theorem xLh {t : List PairL} {m : MsgL} (ht : TabOk 49000000 100000 t) (hm : MsgLen 8 m) : VC Tryz.prog 185 [.agg (encM m), .sh false (t.map encP)] [] (.sh false ((xCo t m).map encP)) [] := by
  have hs := ht.s
  have hl := ht.l
  have hfr := hm.fr
  have hto := hm.to
  have hp1 := xCe m.to (by omega)
  have hd := xDZ (xKJ (q := .sh false (t.map encP)) (xAH m.to) hs Sl.sh (by omega))
  have hmv := xDZ (xOu m.fr m.to hs (by omega) ht.k (by omega) (by omega))
  have hdl : (xAv t (xAH m.to)).length ≤ t.length := List.length_filter_le ..
  have hml : (xBV t m.fr m.to).length ≤ t.length := by unfold xBV; rw [List.length_map]; exact List.length_filter_le ..
  have hu := xDZ (xRS (q := .sh false ((xAv t (xAH m.to)).map encP)) (p := .sh false ((xBV t m.fr m.to).map encP)) Sl.sh Sl.sh (by omega) (by omega))
  refine vcs vf185 ?_
  repeat first|refine sgo ?_|refine cv0 hp1 ?_|refine cf hd ?_|refine cf hmv ?_|refine cf hu ?_|refine sop ?_
  exact xAC ⟨.inr rfl, oAny rfl⟩
theorem xLZ (t : List PairL) (m : MsgL) : (xCo t m).length ≤ 2 * t.length := by
  have h := xEJ (xAv t (xAH m.to)) (xBV t m.fr m.to)
  have hdl : (xAv t (xAH m.to)).length ≤ t.length := List.length_filter_le ..
  have hml : (xBV t m.fr m.to).length ≤ t.length := by unfold xBV; rw [List.length_map]; exact List.length_filter_le ..
  unfold xCo; omega
theorem xSx {t : List PairL} {m : MsgL} (ht : TabOk 49000000 100000 t) (hm : MsgLen 8 m) : VC Tryz.prog 179 [.agg (encM m), .sh false (t.map encP)] [] (.sh false ((xAv (xCo t m) (xAH m.fr)).map encP)) [] := by
  have hfr := hm.fr
  have hl := ht.l
  have hc := xLh ht hm
  have hp1 := xCe m.fr (by omega)
  have hcl := xLZ t m
  have hd := xDZ (xKJ (q := .sh false ((xCo t m).map encP)) (xAH m.fr) (xFs ht.s m) Sl.sh (by omega))
  refine vcs vf179 ?_
  repeat first|refine sgo ?_|refine cf hc ?_|refine cv0 hp1 ?_|refine cf hd ?_|refine sop ?_
  exact xAC ⟨.inr rfl, oAny rfl⟩
theorem xOa {r : List PairL} {m : MsgL} (hl : r.length ≤ 100000000) : VC Tryz.prog 201 [.agg (encM m), .sh false (r.map encP)] [] (ownV ⟨0, 0⟩ ((r.map (xBr m)).map encP)) [blkV 3 ((r.map (xBr m)).map encP)] := by
  refine vcs vf201 ?_
  have hmr : (r.map encP).length = r.length := List.length_map ..
  have cl := xIV (xs := r) (by omega)
  repeat first|refine sgo ?_|refine cv cl ?_|refine sop ?_
  refine xAE (fun (g : Nat × List PairL) => [(2, .ptr ⟨1, 0⟩ 1 0 0), (5, .own ⟨1, 8200⟩ (r.map encP).length 0 (r.map encP).length), (10, .int .i64 (r.map encP).length), (11, .int .i64 g.1)])
    (fun g => [(⟨1, 0⟩, ⟨true, false, 8, [encM m]⟩), (⟨1, 8200⟩, blkV 3 (g.2.map encP))]) (fun g => r.length - g.1)
    (fun g => g.1 ≤ r.length ∧ g.2 = mapN (xBr m) r g.1) (0, r) goes ⟨Nat.zero_le _, rfl⟩ ?_
  rintro ⟨i, zs⟩ ⟨hi, hz⟩
  dsimp only at hi hz ⊢
  have hzl : zs.length = r.length := by rw [hz]; exact xJw _ _ _
  have hzm : (zs.map encP).length = r.length := by rw [List.length_map]; exact hzl
  repeat first|refine sgo ?_|refine sop ?_
  refine cnd (fun h => xAA ?_) (fun h => xAD ?_)
  · have hlt : i < r.length := by have h' := of_decide_eq_true h; omega
    obtain ⟨p, hp⟩ : ∃ x, r[i]? = some x := ⟨_, List.getElem?_eq_getElem hlt⟩
    have hzp : zs[((i : Nat) : Int).toNat]? = some p := by rw [hz]; exact xJx hp
    have hpe : (blkV 3 (zs.map encP)).els[((i : Nat) : Int).toNat]? = some (encP p) := by
      show (zs.map encP)[_]? = _
      rw [List.getElem?_map, hzp]; rfl
    have hset : zs.set ((i : Nat) : Int).toNat (xBr m p) = mapN (xBr m) r (i + 1) := by rw [hz]; exact xJv hp
    repeat first|refine sgo ?_|refine cv0 (xQS m.sp p.key) ?_|refine sop ?_
    refine cnd (fun h => ?_) (fun h => xAA ?_)
    · have hst : xBr m p = { p with stamp := m.n } := by unfold xBr; rw [if_pos h]
      rw [hst] at hset
      repeat first|refine sgo ?_|refine o_v (vstf encP ({ p with stamp := m.n } : PairL) hzp) ?_|refine sop ?_
      exact agn (i + 1, _) ⟨by simp only; omega, hset⟩ goes
    · have hst : xBr m p = p := by unfold xBr; rw [if_neg (by simp [h])]
      rw [hst, xMi hzp] at hset
      repeat first|refine sgo ?_|refine sop ?_
      exact agn (i + 1, zs) ⟨by simp only; omega, hset⟩ goes
  · have hge : i = r.length := by have h' := of_decide_eq_false h; omega
    subst hge
    rw [xJy] at hz
    repeat first|refine sgo ?_|refine sop ?_
    exact xAC ⟨.inr rfl, oOwn (congrArg (List.map encP) hz)⟩
end Go.Proofs
open Go.V Go.Pu
set_option linter.unusedVariables false
set_option linter.unusedSimpArgs false
set_option maxRecDepth 20000
namespace Go.Proofs
theorem xRD {r : List PairL} {m : MsgL} (hl : r.length ≤ 100000000) : VC Tryz.prog 201 [.agg (encM m), .sh false (r.map encP)] [] (.sh false ((r.map (xBr m)).map encP)) [] := xDZ (xOa hl)
theorem xNl {t : List PairL} {m : MsgL} (ht : TabOk 49000000 100000 t) (hk : MsgOk m) (hl : MsgLen 8 m) : VC Tryz.prog 67 [.sh false (t.map encP), .agg (encM m)] [] (.sh false ((xAs t m).map encP)) [] := by
  have hz := MsgSz.of hk hl
  have hs := ht.s
  have hn := ht.l
  have ho := xR4 hk.k
  have a1 := xVL (q := .sh false (t.map encP)) (m := m) hs Sl.sh (by omega)
  have a2 := xVN (q := .sh false (t.map encP)) (m := m) hs Sl.sh (by omega) hz
  have a3 := xSy (q := .sh false (t.map encP)) (m := m) hs Sl.sh (by omega)
  have a4 := xSx (m := m) ht hl
  have a5 := xLh (m := m) ht hl
  have a6 := xRD (r := t) (m := m) (by omega)
  have hk := hk.k
  clear hz hl
  obtain ⟨k, m2, m3, m4, m5, m6, m7⟩ := m
  simp only at hk
  rcases six hk with rfl | rfl | rfl | rfl | rfl | rfl
  · refine vcs vf67 ?_
    repeat first|refine sgo ?_|refine cf ho ?_|refine o_v0 visn ?_|refine sop ?_
    refine cndt ?_
    repeat first|refine sgo ?_|refine cf a1 ?_|refine sop ?_
    exact xAC ⟨.inr rfl, oAny rfl⟩
  · refine vcs vf67 ?_
    repeat first|refine sgo ?_|refine cf ho ?_|refine o_v0 visn ?_|refine sop ?_
    refine cndt ?_
    repeat first|refine sgo ?_|refine cf a2 ?_|refine sop ?_
    exact xAC ⟨.inr rfl, oAny rfl⟩
  · refine vcs vf67 ?_
    repeat first|refine sgo ?_|refine cf ho ?_|refine o_v0 visn ?_|refine sop ?_
    refine cndt ?_
    repeat first|refine sgo ?_|refine cf a3 ?_|refine sop ?_
    exact xAC ⟨.inr rfl, oAny rfl⟩
  · refine vcs vf67 ?_
    repeat first|refine sgo ?_|refine cf ho ?_|refine o_v0 visn ?_|refine sop ?_
    refine cndt ?_
    repeat first|refine sgo ?_|refine cf a4 ?_|refine sop ?_
    exact xAC ⟨.inr rfl, oAny rfl⟩
  · refine vcs vf67 ?_
    repeat first|refine sgo ?_|refine cf ho ?_|refine o_v0 visn ?_|refine sop ?_
    refine cndt ?_
    repeat first|refine sgo ?_|refine cf a5 ?_|refine sop ?_
    exact xAC ⟨.inr rfl, oAny rfl⟩
  · refine vcs vf67 ?_
    repeat first|refine sgo ?_|refine cf ho ?_|refine o_v0 visn ?_|refine sop ?_
    refine cndt ?_
    repeat first|refine sgo ?_|refine cf a6 ?_|refine sop ?_
    exact xAC ⟨.inr rfl, oAny rfl⟩
theorem xPY {t : List PairL} {p x : PairL} (hs : Srt t) (hx : x ∈ putL t p) : x = p ∨ x ∈ t := by
  have h := Srt.find (xBL hs) hx
  rw [xCP hs] at h
  split at h
  · left; cases h; rfl
  · right; exact xQb h
theorem xUH {t : List PairL} {p : PairL} (hs : Srt t) : (putL t p).length ≤ t.length + 1 := by
  cases hf : (xAO t p.key).isSome with
  | true => rw [← xKq hs hf]; simp
  | false => rw [← xPa hs hf]; simp; omega
theorem xLf {N B : Nat} {t : List PairL} (ht : TabOk N B t) (hN : 1 ≤ N) {m : MsgL} (hm : MsgLen 8 m) (h8 : 8 ≤ B) : TabOk (2 * N) (B + 8) (xAs t m) := by
  have hs := ht.s
  have hl := ht.l
  have hk := ht.k
  have hcl := xLZ t m
  have hck : ∀ p ∈ xCo t m, p.key.length ≤ B + 8 := by
    intro p hp
    unfold xCo at hp
    rcases xC1 _ _ hp with h | h
    · have := hk p (List.mem_filter.1 h).1; omega
    · unfold xBV at h
      obtain ⟨q, hq, rfl⟩ := List.mem_map.1 h
      have h1 := hk q (List.mem_filter.1 hq).1
      have h2 := hm.to
      simp only [mvP, List.length_append, List.length_drop]
      omega
  refine ⟨xA3 hs m, ?_, ?_⟩
  · unfold xAs
    repeat' split
    · have := xUH (p := ⟨m.key, m.val, m.n⟩) hs; omega
    · have := xU3 t m.key; omega
    · have : (xAv t m.sp).length ≤ t.length := List.length_filter_le ..
      omega
    · rw [List.length_map]; omega
    · have : (xAv (xCo t m) (xAH m.fr)).length ≤ (xCo t m).length := List.length_filter_le ..
      omega
    · omega
  · unfold xAs
    repeat' split
    · intro p hp
      rcases xPY hs hp with rfl | h
      · have := hm.key; simp only; omega
      · have := hk p h; omega
    · intro p hp; have := hk p (List.mem_filter.1 hp).1; omega
    · intro p hp; have := hk p (List.mem_filter.1 hp).1; omega
    · intro p hp
      obtain ⟨q, hq, rfl⟩ := List.mem_map.1 hp
      rw [xEq]; have := hk q hq; omega
    · intro p hp; exact hck p (List.mem_filter.1 hp).1
    · exact hck
theorem xRH : ∀ (l : List MsgL) {N B : Nat} {t : List PairL}, TabOk N B t → 1 ≤ N → 8 ≤ B → (∀ m ∈ l, MsgLen 8 m) → TabOk (2 ^ l.length * N) (B + 8 * l.length) (allT t l)
  | [], N, B, t, h, _, _, _ => by
    have e : allT t [] = t := rfl
    rw [e]; simpa using h
  | m :: l, N, B, t, h, hN, hB, hm => by
    have h1 := xLf h hN (hm m (by simp)) hB
    have h2 := xRH l h1 (by omega) (by omega) fun x hx => hm x (by simp [hx])
    refine h2.mono ?_ (by simp only [List.length_cons]; omega)
    rw [List.length_cons, Nat.pow_succ, Nat.mul_assoc]
    exact Nat.le_refl _
theorem pow_le {a b : Nat} (h : a ≤ b) {N : Nat} : 2 ^ a * N ≤ 2 ^ b * N := Nat.mul_le_mul_right _ (Nat.pow_le_pow_right (by decide) h)
theorem all_vc {l : List MsgL} {t : List PairL} {N B n : Nat} (ht : TabOk N B t) (hN : 1 ≤ N) (hB : 8 ≤ B) (hn : l.length ≤ n) (hn2 : 2 ^ n * N ≤ 49000000) (hb2 : B + 8 * n ≤ 100000) (ho : ∀ m ∈ l, MsgOk m) (hm : ∀ m ∈ l, MsgLen 8 m) : VC Tryz.prog 35 [.sh false (t.map encP), .sh false (l.map encM)] [] (.sh false ((allT t l).map encP)) [] := by
  have hml : (l.map encM).length = l.length := List.length_map _
  refine vcs vf35 ?_
  repeat first|refine sgo ?_|refine sop ?_
  refine xAE (fun (g : Nat) => [(0, .sh false ((allT t (l.take g)).map encP)), (7, .sh false (l.map encM)), (8, .int .i64 (l.map encM).length), (9, .int .i64 g)]) (fun _ => []) (fun g => l.length - g)
    (fun g => g ≤ l.length) 0 xAS (Nat.zero_le _) ?_
  intro i hi
  repeat first|refine sgo ?_|refine sop ?_
  refine cnd (fun h => xAA ?_) (fun h => xAD ?_)
  · have hlt : i < l.length := by have h' := of_decide_eq_true h; omega
    obtain ⟨m, hx⟩ : ∃ m, l[i]? = some m := ⟨_, List.getElem?_eq_getElem hlt⟩
    have hxe := gm (enc := encM) (n := (i : Int)) hx (by omega)
    have hmem := List.mem_of_getElem? hx
    have htb := xRH (l.take i) ht hN hB fun x hx' => hm x (List.mem_of_mem_take hx')
    have htl : (l.take i).length = i := by rw [List.length_take]; omega
    rw [htl] at htb
    have hp : 2 ^ i * N ≤ 2 ^ n * N := pow_le (by omega)
    have hap := xNl (htb.mono (Nat.le_trans hp hn2) (by omega)) (ho m hmem) (hm m hmem)
    have hst : xAs (allT t (l.take i)) m = allT t (l.take (i + 1)) := by
      rw [List.take_add_one, hx, Option.toList_some, xDI]; rfl
    rw [hst] at hap
    generalize allT t (l.take i) = c at hap
    repeat first|refine sgo ?_|refine cf hap ?_|refine sop ?_
    exact agn (Q := fun _ _ => True) (i + 1) (by omega) xAS
  · have hge : i = l.length := by have h' := of_decide_eq_false h; omega
    subst hge
    rw [List.take_length]
    repeat first|refine sgo ?_|refine sop ?_
    exact xAC ⟨.inr rfl, oAny rfl⟩
theorem inL_step {l : List SpanL} {j : Nat} {s : SpanL} (k : Str) (h : l[j]? = some s) : inL (l.take (j + 1)) k = (inL (l.take j) k || hasL s k) := by
  rw [List.take_add_one, h, Option.toList_some, xAo]; simp [inL]
theorem xJN {t : List PairL} {i : Nat} {y : PairL} (f : PairL → Bool) (hy : t[i]? = some y) : (t.take (i + 1)).filter f = if f y = true then (t.take i).filter f ++ [y] else (t.take i).filter f := by
  rw [List.take_add_one, hy, Option.toList_some, List.filter_append]
  cases h : f y <;> simp [h]
end Go.Proofs
open Go.V Go.Pu
set_option linter.unusedVariables false
set_option linter.unusedSimpArgs false
set_option maxRecDepth 20000
namespace Go.Proofs
def vc36 := vcm Tryz.prog 36
theorem vf36 : VF Tryz.prog 36 = some (29, vc36, [.tmp 4]) := by kernel_rfl
def vc40 := vcm Tryz.prog 40
theorem vf40 : VF Tryz.prog 40 = some (30, vc40, [.tmp 4]) := by kernel_rfl
def vc65 := vcm Tryz.prog 65
theorem vf65 : VF Tryz.prog 65 = some (18, vc65, [.tmp 6, .tmp 7]) := by kernel_rfl
def vc30 := vcm Tryz.prog 30
theorem vf30 : VF Tryz.prog 30 = some (121, vc30, [.tmp 4]) := by kernel_rfl
def vc37 := vcm Tryz.prog 37
theorem vf37 : VF Tryz.prog 37 = some (19, vc37, [.tmp 4]) := by kernel_rfl
def vc29 := vcm Tryz.prog 29
theorem vf29 : VF Tryz.prog 29 = some (42, vc29, [.tmp 4]) := by kernel_rfl
theorem xJq (t : List PairL) (s : SpanL) : outT t [s] = xAv t s := by
  unfold outT xAv
  refine List.filter_congr fun p _ => ?_
  simp [inL]
theorem in_one (t : List PairL) (s : SpanL) : inT t [s] = xBo t s := by
  unfold inT xBo
  refine List.filter_congr fun p _ => ?_
  simp [inL]
theorem xF1 {t : List PairL} {d : List SpanL} (hl : t.length ≤ 100000000) (hd : d.length ≤ 1000) : VC Tryz.prog 40 [.sh false (t.map encP), .sh false (d.map encS)] [] (.sh false ((outT t d).map encP)) [] := by
  have hin := fun k => in_vc (q := .sh false (d.map encS)) (l := d) k Sl.sh (Nat.le_trans hd (by decide))
  have hmt : (t.map encP).length = t.length := List.length_map ..
  refine xDZ ?_
  refine vcs vf40 ?_
  repeat first|refine sgo ?_|refine sop ?_
  refine xAE (fun (g : Nat × List PairL) => [(0, .sh false (t.map encP)), (1, .sh false (d.map encS)), (5, ownV ⟨1, 8192⟩ (g.2.map encP)), (6, .int .i64 g.1)])
    (fun g => [(⟨1, 8192⟩, blkV 3 (g.2.map encP))]) (fun g => t.length - g.1)
    (fun g => g.1 ≤ t.length ∧ g.2.length ≤ g.1 ∧ g.2 = (t.take g.1).filter (fun p => !inL d p.key)) (0, []) xAS ⟨Nat.zero_le _, Nat.le_refl _, rfl⟩ ?_
  rintro ⟨i, o⟩ ⟨hi, hol, ho⟩
  dsimp only at hi hol ho ⊢
  repeat first|refine sgo ?_|refine sop ?_
  refine cnd (fun h => xAA ?_) (fun h => xAD ?_)
  · have hlt : i < t.length := by have h' := of_decide_eq_true h; omega
    have hlt2 : (i : Int) < ((t.map encP).length : Nat) := by omega
    obtain ⟨y, hy⟩ : ∃ x, t[i]? = some x := ⟨_, List.getElem?_eq_getElem hlt⟩
    have hye := gm (enc := encP) (n := (i : Int)) hy (by omega)
    have hst := xJN (fun p => !inL d p.key) hy
    rw [← ho] at hst
    repeat first|refine sgo ?_|refine cv0 (hin y.key) ?_|refine sop ?_
    refine cnd (fun h => ?_) (fun h => xAA ?_)
    · rw [if_pos h] at hst
      repeat first|refine sgo ?_|refine o_v (vap encP y) ?_|refine sop ?_
      exact agn (Q := fun _ _ => True) (i + 1, o ++ [y]) ⟨by simp only; omega, by simp only [List.length_append, List.length_cons, List.length_nil]; omega, hst.symm⟩ xAS
    · rw [if_neg (by simp [h])] at hst
      repeat first|refine sgo ?_|refine sop ?_
      exact agn (Q := fun _ _ => True) (i + 1, o) ⟨by simp only; omega, by simp only; omega, hst.symm⟩ xAS
  · have hge : i = t.length := by have h' := of_decide_eq_false h; omega
    subst hge
    rw [List.take_length] at ho
    repeat first|refine sgo ?_|refine sop ?_
    exact xAC ⟨.inr rfl, oOwn (congrArg (List.map encP) ho)⟩
theorem xKu {t : List PairL} {d : List SpanL} (hl : t.length ≤ 100000000) (hd : d.length ≤ 1000) : VC Tryz.prog 36 [.sh false (t.map encP), .sh false (d.map encS)] [] (.sh false ((inT t d).map encP)) [] := by
  have hin := fun k => in_vc (q := .sh false (d.map encS)) (l := d) k Sl.sh (Nat.le_trans hd (by decide))
  have hmt : (t.map encP).length = t.length := List.length_map ..
  refine xDZ ?_
  refine vcs vf36 ?_
  repeat first|refine sgo ?_|refine sop ?_
  refine xAE (fun (g : Nat × List PairL) => [(0, .sh false (t.map encP)), (1, .sh false (d.map encS)), (5, ownV ⟨1, 8192⟩ (g.2.map encP)), (6, .int .i64 g.1)])
    (fun g => [(⟨1, 8192⟩, blkV 3 (g.2.map encP))]) (fun g => t.length - g.1)
    (fun g => g.1 ≤ t.length ∧ g.2.length ≤ g.1 ∧ g.2 = (t.take g.1).filter (fun p => inL d p.key)) (0, []) xAS ⟨Nat.zero_le _, Nat.le_refl _, rfl⟩ ?_
  rintro ⟨i, o⟩ ⟨hi, hol, ho⟩
  dsimp only at hi hol ho ⊢
  repeat first|refine sgo ?_|refine sop ?_
  refine cnd (fun h => xAA ?_) (fun h => xAD ?_)
  · have hlt : i < t.length := by have h' := of_decide_eq_true h; omega
    have hlt2 : (i : Int) < ((t.map encP).length : Nat) := by omega
    obtain ⟨y, hy⟩ : ∃ x, t[i]? = some x := ⟨_, List.getElem?_eq_getElem hlt⟩
    have hye := gm (enc := encP) (n := (i : Int)) hy (by omega)
    have hst := xJN (fun p => inL d p.key) hy
    rw [← ho] at hst
    repeat first|refine sgo ?_|refine cv0 (hin y.key) ?_|refine sop ?_
    refine cnd (fun h => ?_) (fun h => xAA ?_)
    · rw [if_pos h] at hst
      repeat first|refine sgo ?_|refine o_v (vap encP y) ?_|refine sop ?_
      exact agn (Q := fun _ _ => True) (i + 1, o ++ [y]) ⟨by simp only; omega, by simp only [List.length_append, List.length_cons, List.length_nil]; omega, hst.symm⟩ xAS
    · rw [if_neg (by simp [h])] at hst
      repeat first|refine sgo ?_|refine sop ?_
      exact agn (Q := fun _ _ => True) (i + 1, o) ⟨by simp only; omega, by simp only; omega, hst.symm⟩ xAS
  · have hge : i = t.length := by have h' := of_decide_eq_false h; omega
    subst hge
    rw [List.take_length] at ho
    repeat first|refine sgo ?_|refine sop ?_
    exact xAC ⟨.inr rfl, oOwn (congrArg (List.map encP) ho)⟩
theorem xKj (k f t : Str) (hk : k.length ≤ 1000000000) (hf : f.length ≤ 1000000000) (ht : t.length ≤ 1000000000) : VC Tryz.prog 65 [.str k, .str f, .str t] [] (.tup [.str (xDO k f t).1, .bool (xDO k f t).2]) [] := by
  have hb := xId k f hk hf
  unfold xDO
  generalize hbe : xAF k f = b at hb ⊢
  cases b
  · refine xCp vf65 ?_ (Nat.le_of_ble_eq_true rfl) (by intro vs h; cases h; simp)
    repeat first|refine sgo ?_|refine cv0 hb ?_|refine sop ?_
    refine cndt ?_
    repeat first|refine sgo ?_|refine sop ?_
    exact xAC ⟨.inr rfl, oAny rfl⟩
  · have hlen : f.length ≤ k.length := by obtain ⟨r, rfl⟩ := begins_iff.1 hbe; simp
    refine xCp vf65 ?_ (Nat.le_of_ble_eq_true rfl) (by intro vs h; cases h; simp)
    repeat first|refine sgo ?_|refine cv0 hb ?_|refine sop ?_
    refine cndf (xAA ?_)
    repeat first|refine sgo ?_|refine o_v0 (vslD f.length hlen) ?_|refine sop ?_
    exact xAC ⟨.inr rfl, oAny rfl⟩
theorem putC {q : PV} {xs : List PairL} {p : PairL} (hq : Sl q (xs.map encP)) (hl : xs.length ≤ 1000000000) : VC Tryz.prog 64 [q, .agg (encP p)] [] (.sh false ((putL xs p).map encP)) [] := xDZ (xTB hq hl)
theorem puts_step {l : List PairL} {i : Nat} {p : PairL} (h : l[i]? = some p) (o : List PairL) : (l.take (i + 1)).foldl putL o = putL ((l.take i).foldl putL o) p := by
  rw [List.take_add_one, h, Option.toList_some, List.foldl_append]; rfl
theorem xFZ : ∀ (l o : List PairL), (l.foldl putL o).length ≤ o.length + l.length
  | [], o => by simp
  | p :: l, o => by
    have h1 := xFZ l (putL o p)
    have h2 := xRv o p
    rw [List.foldl_cons, List.length_cons]; omega
set_option maxHeartbeats 4000000 in
theorem xKn {t : List PairL} {m : MsgL} (ht : TabOk 49000000 100000 t) (hm : MsgOk m) (hl : MsgLen 8 m) : VC Tryz.prog 30 [.sh false (t.map encP), .agg (encM m)] [] (.sh false ((xHa t m).map encP)) [] := by
  have hk := hm.k
  have hn := ht.l
  have h1 := putC (q := .sh false (t.map encP)) (p := ⟨m.key, m.val, m.n⟩) Sl.sh (by omega)
  have h2 := xF1 (t := t) (d := [oneL m.key]) (by omega) (by simp)
  have h2o := xLy m.key (by have := hl.key; omega)
  rw [xJq, xNa] at h2
  have h3 := xF1 (t := t) (d := [m.sp]) (by omega) (by simp)
  rw [xJq] at h3
  have p1 := xCv m.to (by have := hl.to; omega)
  have p2 := xCv m.fr (by have := hl.fr; omega)
  have h4 := xF1 (t := t) (d := [xAH m.to]) (by omega) (by simp)
  rw [xJq] at h4
  have hdl : (xAv t (xAH m.to)).length ≤ t.length := List.length_filter_le ..
  have h5 := xF1 (t := xAv t (xAH m.to)) (d := [xAH m.fr]) (by omega) (by simp)
  rw [xJq] at h5
  have hdl2 : (xAv (xAv t (xAH m.to)) (xAH m.fr)).length ≤ t.length := Nat.le_trans (List.length_filter_le ..) hdl
  have h6 := xKu (t := t) (d := [xAH m.fr]) (by omega) (by simp)
  rw [in_one, xGW] at h6
  have hsl : (srcL t m.fr).length ≤ t.length := List.length_filter_le ..
  have hsk : ∀ p ∈ srcL t m.fr, p.key.length ≤ 100000 ∧ xAF p.key m.fr = true := fun p hp => ⟨ht.k p (List.mem_filter.1 hp).1, xDb hp⟩
  have hmt : (t.map encP).length = t.length := List.length_map ..
  have hfl := hl.fr
  have htl := hl.to
  have hloop : ∀ (k : Int) (base : List PairL), base.length ≤ t.length → xBV t m.fr m.to = (srcL t m.fr).map (mvP m.fr m.to) := fun _ _ _ => rfl
  unfold xHa xL1 xBV
  generalize srcL t m.fr = src at *
  have hms : (src.map encP).length = src.length := List.length_map ..
  clear hl hm
  obtain ⟨k, key, val, sp, fr, to, n⟩ := m
  dsimp only at *
  rcases six hk with rfl | rfl | rfl | rfl | rfl | rfl
  · rw [if_pos rfl]
    refine vcs vf30 ?_
    repeat first|refine sgo ?_|refine sop ?_
    refine cndt ?_
    repeat first|refine sgo ?_|refine cf h1 ?_|refine sop ?_
    exact xAC ⟨.inr rfl, oAny rfl⟩
  · rw [if_neg (by decide), if_pos rfl]
    refine vcs vf30 ?_
    repeat first|refine sgo ?_|refine sop ?_
    refine cndf ?_
    repeat first|refine sgo ?_|refine sop ?_
    refine cndt ?_
    repeat first|refine sgo ?_|refine cv0 h2o ?_|refine cf h2 ?_|refine sop ?_
    exact xAC ⟨.inr rfl, oAny rfl⟩
  · rw [if_neg (by decide), if_neg (by decide), if_pos rfl]
    refine vcs vf30 ?_
    repeat first|refine sgo ?_|refine sop ?_
    refine cndf ?_
    repeat first|refine sgo ?_|refine sop ?_
    refine cndf ?_
    repeat first|refine sgo ?_|refine sop ?_
    refine cndt ?_
    repeat first|refine sgo ?_|refine cf h3 ?_|refine sop ?_
    exact xAC ⟨.inr rfl, oAny rfl⟩
  · rw [if_neg (by decide), if_neg (by decide), if_neg (by decide), if_neg (by decide)]
    (first | rw [if_pos rfl] | rw [if_neg (by decide)])
    refine vcs vf30 ?_
    repeat first|refine sgo ?_|refine sop ?_
    refine cndf ?_
    repeat first|refine sgo ?_|refine sop ?_
    refine cndf ?_
    repeat first|refine sgo ?_|refine sop ?_
    refine cndf ?_
    repeat first|refine sgo ?_|refine sop ?_
    refine cndf (xAA ?_)
    repeat first|refine sgo ?_|refine cv0 p1 ?_|refine cf h4 ?_|refine cv0 p2 ?_|refine cf h6 ?_|refine sop ?_
    (first | (refine cndt ?_; skip) | refine cndf (xAA ?_))
    repeat first|refine sgo ?_|refine cv0 p2 ?_|refine cf h5 ?_|refine sop ?_
    refine xAE (fun (g : Nat) => [(3, .ptr ⟨1, 0⟩ 1 0 0), (7, .sh false (((src.take g).map (mvP fr to)).foldl putL (if (4 : Int) = 4 then xAv (xAv t (xAH to)) (xAH fr) else xAv t (xAH to)) |>.map encP)), (8, .sh false (src.map encP)), (9, .int .i64 g)])
      (fun g => [(⟨1, 0⟩, ⟨true, false, 8, [[.int .i64 4, .str key, .str val, .str sp.lo, .str sp.hi, .str fr, .str to, .int .i64 n]]⟩)]) (fun g => src.length - g) (fun g => g ≤ src.length) 0 xAS (Nat.zero_le _) ?_
    intro i hi
    repeat first|refine sgo ?_|refine sop ?_
    refine cnd (fun h => xAA ?_) (fun h => xAD ?_)
    · have hlt : i < src.length := by have h' := of_decide_eq_true h; omega
      obtain ⟨p, hp⟩ : ∃ x, src[i]? = some x := ⟨_, List.getElem?_eq_getElem hlt⟩
      have hpe := gm (enc := encP) (n := (i : Int)) hp (by omega)
      have hlt2 : (i : Int) < ((src.map encP).length : Nat) := by omega
      obtain ⟨hpk, hpb⟩ := hsk p (List.mem_of_getElem? hp)
      have hmv := xKj p.key fr to (by omega) (by omega) (by omega)
      unfold xDO at hmv
      rw [if_pos hpb] at hmv
      have hst : ∀ o : List PairL, ((src.take (i + 1)).map (mvP fr to)).foldl putL o = putL (((src.take i).map (mvP fr to)).foldl putL o) (mvP fr to p) := fun o => by
        rw [List.take_add_one, hp, Option.toList_some, List.map_append, List.foldl_append]; rfl
      have hbl : (if (4 : Int) = 4 then xAv (xAv t (xAH to)) (xAH fr) else xAv t (xAH to)).length ≤ t.length := by split <;> assumption
      generalize (if (4 : Int) = 4 then xAv (xAv t (xAH to)) (xAH fr) else xAv t (xAH to)) = base at *
      have hpl := xFZ ((src.take i).map (mvP fr to)) base
      rw [List.length_map, List.length_take] at hpl
      have hpu := putC (q := .sh false ((((src.take i).map (mvP fr to)).foldl putL base).map encP)) (p := mvP fr to p) Sl.sh (by omega)
      rw [← hst] at hpu
      repeat first|refine sgo ?_|refine cv0 hmv ?_|refine cf hpu ?_|refine sop ?_
      exact agn (Q := fun _ _ => True) (i + 1) (by omega) xAS
    · have hge : i = src.length := by have h' := of_decide_eq_false h; omega
      subst hge
      rw [List.take_length]
      repeat first|refine sgo ?_|refine sop ?_
      exact xAC ⟨.inr rfl, oAny rfl⟩
  · rw [if_neg (by decide), if_neg (by decide), if_neg (by decide), if_neg (by decide)]
    (first | rw [if_pos rfl] | rw [if_neg (by decide)])
    refine vcs vf30 ?_
    repeat first|refine sgo ?_|refine sop ?_
    refine cndf ?_
    repeat first|refine sgo ?_|refine sop ?_
    refine cndf ?_
    repeat first|refine sgo ?_|refine sop ?_
    refine cndf ?_
    repeat first|refine sgo ?_|refine sop ?_
    refine cndf (xAA ?_)
    repeat first|refine sgo ?_|refine cv0 p1 ?_|refine cf h4 ?_|refine cv0 p2 ?_|refine cf h6 ?_|refine sop ?_
    (first | (refine cndt ?_; skip) | refine cndf (xAA ?_))
    repeat first|refine sgo ?_|refine cv0 p2 ?_|refine cf h5 ?_|refine sop ?_
    refine xAE (fun (g : Nat) => [(3, .ptr ⟨1, 0⟩ 1 0 0), (7, .sh false (((src.take g).map (mvP fr to)).foldl putL (if (5 : Int) = 4 then xAv (xAv t (xAH to)) (xAH fr) else xAv t (xAH to)) |>.map encP)), (8, .sh false (src.map encP)), (9, .int .i64 g)])
      (fun g => [(⟨1, 0⟩, ⟨true, false, 8, [[.int .i64 5, .str key, .str val, .str sp.lo, .str sp.hi, .str fr, .str to, .int .i64 n]]⟩)]) (fun g => src.length - g) (fun g => g ≤ src.length) 0 xAS (Nat.zero_le _) ?_
    intro i hi
    repeat first|refine sgo ?_|refine sop ?_
    refine cnd (fun h => xAA ?_) (fun h => xAD ?_)
    · have hlt : i < src.length := by have h' := of_decide_eq_true h; omega
      obtain ⟨p, hp⟩ : ∃ x, src[i]? = some x := ⟨_, List.getElem?_eq_getElem hlt⟩
      have hpe := gm (enc := encP) (n := (i : Int)) hp (by omega)
      have hlt2 : (i : Int) < ((src.map encP).length : Nat) := by omega
      obtain ⟨hpk, hpb⟩ := hsk p (List.mem_of_getElem? hp)
      have hmv := xKj p.key fr to (by omega) (by omega) (by omega)
      unfold xDO at hmv
      rw [if_pos hpb] at hmv
      have hst : ∀ o : List PairL, ((src.take (i + 1)).map (mvP fr to)).foldl putL o = putL (((src.take i).map (mvP fr to)).foldl putL o) (mvP fr to p) := fun o => by
        rw [List.take_add_one, hp, Option.toList_some, List.map_append, List.foldl_append]; rfl
      have hbl : (if (5 : Int) = 4 then xAv (xAv t (xAH to)) (xAH fr) else xAv t (xAH to)).length ≤ t.length := by split <;> assumption
      generalize (if (5 : Int) = 4 then xAv (xAv t (xAH to)) (xAH fr) else xAv t (xAH to)) = base at *
      have hpl := xFZ ((src.take i).map (mvP fr to)) base
      rw [List.length_map, List.length_take] at hpl
      have hpu := putC (q := .sh false ((((src.take i).map (mvP fr to)).foldl putL base).map encP)) (p := mvP fr to p) Sl.sh (by omega)
      rw [← hst] at hpu
      repeat first|refine sgo ?_|refine cv0 hmv ?_|refine cf hpu ?_|refine sop ?_
      exact agn (Q := fun _ _ => True) (i + 1) (by omega) xAS
    · have hge : i = src.length := by have h' := of_decide_eq_false h; omega
      subst hge
      rw [List.take_length]
      repeat first|refine sgo ?_|refine sop ?_
      exact xAC ⟨.inr rfl, oAny rfl⟩
  · rw [if_neg (by decide), if_neg (by decide), if_neg (by decide), if_pos rfl]
    refine xDZ ?_
    refine vcs vf30 ?_
    repeat first|refine sgo ?_|refine sop ?_
    refine cndf ?_
    repeat first|refine sgo ?_|refine sop ?_
    refine cndf ?_
    repeat first|refine sgo ?_|refine sop ?_
    refine cndf ?_
    repeat first|refine sgo ?_|refine sop ?_
    refine cndt ?_
    repeat first|refine sgo ?_|refine o_v (vaps encP [] t) ?_|refine sop ?_
    refine xAE (fun (g : Nat × List PairL) => [(3, .ptr ⟨1, 0⟩ 1 0 0), (5, .own ⟨1, 73728⟩ (t.map encP).length 0 (t.map encP).length), (6, .int .i64 g.1)])
      (fun g => [(⟨1, 0⟩, ⟨true, false, 8, [[.int .i64 6, .str key, .str val, .str sp.lo, .str sp.hi, .str fr, .str to, .int .i64 n]]⟩), (⟨1, 73728⟩, blkV 3 (g.2.map encP))]) (fun g => t.length - g.1)
      (fun g => g.1 ≤ t.length ∧ g.2 = mapN (xBr ⟨6, key, val, sp, fr, to, n⟩) t g.1) (0, t) xAS ⟨Nat.zero_le _, rfl⟩ ?_
    rintro ⟨i, zs⟩ ⟨hi, hz⟩
    dsimp only at hi hz ⊢
    have hzl : zs.length = t.length := by rw [hz]; exact xJw _ _ _
    have hzm : (zs.map encP).length = t.length := by rw [List.length_map]; exact hzl
    repeat first|refine sgo ?_|refine sop ?_
    refine cnd (fun h => xAA ?_) (fun h => xAD ?_)
    · have hlt : i < t.length := by have h' := of_decide_eq_true h; omega
      obtain ⟨p, hp⟩ : ∃ x, t[i]? = some x := ⟨_, List.getElem?_eq_getElem hlt⟩
      have hzp : zs[((i : Nat) : Int).toNat]? = some p := by rw [hz]; exact xJx hp
      have hpe : (blkV 3 (zs.map encP)).els[((i : Nat) : Int).toNat]? = some (encP p) := by
        show (zs.map encP)[_]? = _
        rw [List.getElem?_map, hzp]; rfl
      have hset : zs.set ((i : Nat) : Int).toNat (xBr ⟨6, key, val, sp, fr, to, n⟩ p) = mapN (xBr ⟨6, key, val, sp, fr, to, n⟩) t (i + 1) := by rw [hz]; exact xJv hp
      repeat first|refine sgo ?_|refine cv0 (xPR sp p.key) ?_|refine sop ?_
      refine cnd (fun h => ?_) (fun h => xAA ?_)
      · have hst : xBr ⟨6, key, val, sp, fr, to, n⟩ p = { p with stamp := n } := by unfold xBr; rw [if_pos h]
        rw [hst] at hset
        repeat first|refine sgo ?_|refine o_v (vstf encP ({ p with stamp := n } : PairL) hzp) ?_|refine sop ?_
        exact agn (Q := fun _ _ => True) (i + 1, _) ⟨by simp only; omega, hset⟩ xAS
      · have hst : xBr ⟨6, key, val, sp, fr, to, n⟩ p = p := by unfold xBr; rw [if_neg (by simp [h])]
        rw [hst, xMi hzp] at hset
        repeat first|refine sgo ?_|refine sop ?_
        exact agn (Q := fun _ _ => True) (i + 1, zs) ⟨by simp only; omega, hset⟩ xAS
    · have hge : i = t.length := by have h' := of_decide_eq_false h; omega
      subst hge
      rw [xJy] at hz
      repeat first|refine sgo ?_|refine sop ?_
      exact xAC ⟨.inr rfl, oOwn (congrArg (List.map encP) hz)⟩
structure RawL where
  x : Nat
  y : Nat
  z : Nat
  hx : x < 256
  hy : y < 256
  hz : z < 256
abbrev encR (r : RawL) : List PV := [.int .u8 r.x, .int .u8 r.y, .int .u8 r.z]
def xOB (r : RawL) : PairL := ⟨keyM r.x, valM r.y, r.z % 8⟩
def xBl (l : List RawL) (n : Nat) : List PairL := ((l.take n).map xOB).foldl putL []
theorem xGu {xs : List RawL} (n : Nat) (hn : n ≤ 1000) : VC Tryz.prog 29 [.sh false (xs.map encR), .int .i64 n] [] (.sh false ((xBl xs n).map encP)) [] := by
  refine xDZ ?_
  have hml : (xs.map encR).length = xs.length := List.length_map _
  refine vcs vf29 ?_
  repeat first|refine sgo ?_|refine sop ?_
  refine xAE (fun (i : Nat) => [(0, .sh false (xs.map encR)), (1, .int .i64 n), (5, ownV ⟨1, 8192⟩ ((xBl xs i).map encP)), (6, .int .i64 i)]) (fun i => [(⟨1, 8192⟩, blkV 3 ((xBl xs i).map encP))]) (fun i => xs.length - i)
    (fun i => i ≤ xs.length ∧ i ≤ n) 0 xAS ⟨Nat.zero_le _, Nat.zero_le _⟩ ?_
  rintro i ⟨hi, hin⟩
  have htl : (xBl xs i).length ≤ i := by
    have := xFZ ((xs.take i).map xOB) []
    rw [List.length_map, List.length_take] at this
    unfold xBl
    simp only [List.length_nil] at this; omega
  by_cases hA : i < xs.length
  · have g1 : decide ((i : Int) < (xs.map encR).length) = true := by rw [hml]; simp; omega
    obtain ⟨r, hx⟩ : ∃ y, xs[i]? = some y := ⟨_, List.getElem?_eq_getElem hA⟩
    have hxe := gm (enc := encR) (n := (i : Int)) hx (by omega)
    have hlt2 : (i : Int) < ((xs.map encR).length : Nat) := by rw [hml]; omega
    have htk : xBl xs (i + 1) = putL (xBl xs i) (xOB r) := by
      unfold xBl
      rw [List.take_add_one, hx, Option.toList_some, List.map_append, List.foldl_append]; rfl
    by_cases hB : i < n
    · have g2 : decide ((i : Int) < (n : Int)) = true := by simp; omega
      obtain ⟨x, y, z, hx', hy', hz'⟩ := r
      have k1 := xJ5 hx'
      have k2 := xS0 y
      have h1 : Int.tmod (z : Int) 8 = ((z % 8 : Nat) : Int) := tm z 8
      have h2 : IntKind.i64.wrap ((z % 8 : Nat) : Int) = ((z % 8 : Nat) : Int) := xCH (by omega) (by omega)
      have hpu := xTB (q := .sh false ((xBl xs i).map encP)) (xs := xBl xs i) (p := xOB ⟨x, y, z, hx', hy', hz'⟩) Sl.sh (by omega)
      rw [← htk] at hpu
      repeat first|refine sgo ?_|refine sop ?_
      refine cndt (xAA ?_)
      repeat first|refine sgo ?_|refine cv0 k1 ?_|refine cv0 k2 ?_|refine xCW ?_|refine xB6 ?_|refine cv hpu ?_|refine sop ?_
      exact agn (Q := fun _ _ => True) (i + 1) ⟨by omega, by omega⟩ (xQU ⟨1, 41128⟩ ⟨1, 8192⟩)
    · have g2 : decide ((i : Int) < (n : Int)) = false := by simp; omega
      have he : xBl xs n = xBl xs i := by rw [show i = n by omega]
      rw [he]
      repeat first|refine sgo ?_|refine sop ?_
      refine cndf (xAD ?_)
      repeat first|refine sgo ?_|refine sop ?_
      exact xAC ⟨.inr rfl, oOwn rfl⟩
  · have g1 : decide ((i : Int) < (xs.map encR).length) = false := by rw [hml]; simp; omega
    have he : xBl xs n = xBl xs i := by unfold xBl; rw [List.take_of_length_le (by omega), List.take_of_length_le (by omega)]
    rw [he]
    repeat first|refine sgo ?_|refine sop ?_
    refine cndf (xAD ?_)
    repeat first|refine sgo ?_|refine sop ?_
    exact xAC ⟨.inr rfl, oOwn rfl⟩
theorem xOv (l : List RawL) (n : Nat) : Srt (xBl l n) := by
  have key : ∀ (l t : List PairL), Srt t → Srt (l.foldl putL t) := by
    intro l
    induction l with
    | nil => intro t h; exact h
    | cons x l ih => intro t h; exact ih _ (xBL h)
  exact key _ _ List.Pairwise.nil
theorem xOw (l : List RawL) (n : Nat) : (xBl l n).length ≤ n := by
  have := xFZ ((l.take n).map xOB) []
  rw [List.length_map, List.length_take] at this
  unfold xBl
  simp only [List.length_nil] at this; omega
theorem xOx (l : List RawL) (n : Nat) : ∀ p ∈ xBl l n, p.key.length ≤ 8 := by
  have key : ∀ (l t : List PairL), (∀ p ∈ l, p.key.length ≤ 8) → (∀ p ∈ t, p.key.length ≤ 8) → ∀ p ∈ l.foldl putL t, p.key.length ≤ 8 := by
    intro l
    induction l with
    | nil => intro t _ h; exact h
    | cons x l ih =>
      intro t h1 h
      refine ih _ (fun p hp => h1 p (by simp [hp])) (fun p hp => ?_)
      rw [xF0] at hp
      rcases xKA hp with rfl | hp
      · exact h1 p (by simp)
      · exact h p hp
  refine key _ _ (fun p hp => ?_) (by simp)
  obtain ⟨r, _, rfl⟩ := List.mem_map.1 hp
  have := xGD r.x
  simp only [xOB]; omega
end Go.Proofs
open Go.V Go.Pu
set_option linter.unusedVariables false
set_option linter.unusedSimpArgs false
set_option maxRecDepth 20000
namespace Go.Proofs
def Tb (c : Nat) (t : List PairL) : Prop := TabOk (2 ^ c * 12) (8 + 8 * c) t
theorem Tb.ok {c : Nat} {t : List PairL} (h : Tb c t) (hc : c ≤ 20) : TabOk 49000000 100000 t :=
  h.mono (Nat.le_trans (Nat.mul_le_mul_right 12 (Nat.pow_le_pow_right (by decide) hc)) (by decide)) (by omega)
theorem Tb.up {c d : Nat} {t : List PairL} (h : Tb c t) (hc : c ≤ d) : Tb d t := h.mono (Nat.mul_le_mul_right 12 (Nat.pow_le_pow_right (by decide) hc)) (by omega)
theorem Tb.s {c : Nat} {t : List PairL} (h : Tb c t) : Srt t := TabOk.s h
theorem Tb.l {c : Nat} {t : List PairL} (h : Tb c t) (hc : c ≤ 20) : t.length ≤ 49000000 := (h.ok hc).l
theorem Tb.filter {c : Nat} {t : List PairL} (h : Tb c t) (f : PairL → Bool) : Tb c (t.filter f) := ⟨h.s.filter f, Nat.le_trans (List.length_filter_le ..) (TabOk.l h), fun p hp => TabOk.k h p (List.mem_filter.1 hp).1⟩
theorem Tb.ins {c : Nat} {t : List PairL} (h : Tb c t) (d : List SpanL) : Tb c (inT t d) := h.filter _
theorem xGt (l : List RawL) : Tb 0 (xBl l 12) := ⟨xOv l 12, by have := xOw l 12; omega, fun p hp => xOx l 12 p hp⟩
theorem xMb {c : Nat} {t : List PairL} (h : Tb c t) {m : MsgL} (hm : MsgLen 8 m) : Tb (c + if xA9 m = true then 1 else 0) (xAs t m) := by
  cases hw : xA9 m with
  | true =>
    have := xLf h (Nat.mul_pos (Nat.pow_pos (by decide)) (by decide)) hm (by omega)
    refine TabOk.mono this ?_ ?_
    · rw [if_pos rfl, Nat.pow_succ]; omega
    · rw [if_pos rfl]; omega
  | false =>
    have hr : m.kind = 3 ∨ m.kind = 6 := by
      unfold xA9 at hw
      exact ranges_iff.1 (by simpa using hw)
    rw [if_neg (by simp)]
    refine ⟨xA3 h.s m, ?_, ?_⟩
    · unfold xAs
      rw [if_neg (by omega), if_neg (by omega)]
      split
      · exact Nat.le_trans (List.length_filter_le ..) (TabOk.l h)
      · rw [if_pos (by omega), List.length_map]; exact TabOk.l h
    · unfold xAs
      rw [if_neg (by omega), if_neg (by omega)]
      split
      · intro p hp; exact TabOk.k h p (List.mem_filter.1 hp).1
      · rw [if_pos (by omega)]
        intro p hp
        obtain ⟨q, hq, rfl⟩ := List.mem_map.1 hp
        rw [xEq]; exact TabOk.k h q hq
theorem xGT : ∀ (l : List MsgL) {c : Nat} {t : List PairL}, Tb c t → (∀ m ∈ l, MsgLen 8 m) → Tb (c + l.countP xA9) (allT t l)
  | [], c, t, h, _ => h
  | m :: l, c, t, h, hm => by
    have h1 := xGT l (xMb h (hm m (by simp))) fun x hx => hm x (by simp [hx])
    rw [List.countP_cons]
    refine Tb.up h1 (by split <;> omega)
theorem xMd (l : List MsgL) (i : Nat) : (l.take i).countP xA9 ≤ l.countP xA9 := (List.take_sublist i l).countP_le
set_option maxHeartbeats 1000000 in
theorem xEo {l : List MsgL} {t : List PairL} {c : Nat} (ht : Tb c t) (hc : c + l.countP xA9 ≤ 20) (hn : l.length ≤ 1000000) (ho : ∀ m ∈ l, MsgOk m) (hm : ∀ m ∈ l, MsgLen 8 m) : VC Tryz.prog 35 [.sh false (t.map encP), .sh false (l.map encM)] [] (.sh false ((allT t l).map encP)) [] := by
  have hml : (l.map encM).length = l.length := List.length_map _
  refine vcs vf35 ?_
  repeat first|refine sgo ?_|refine sop ?_
  refine xAE (fun (g : Nat) => [(0, .sh false ((allT t (l.take g)).map encP)), (7, .sh false (l.map encM)), (8, .int .i64 (l.map encM).length), (9, .int .i64 g)]) (fun _ => []) (fun g => l.length - g)
    (fun g => g ≤ l.length) 0 xAS (Nat.zero_le _) ?_
  intro i hi
  repeat first|refine sgo ?_|refine sop ?_
  refine cnd (fun h => xAA ?_) (fun h => xAD ?_)
  · have hlt : i < l.length := by have h' := of_decide_eq_true h; omega
    obtain ⟨m, hx⟩ : ∃ m, l[i]? = some m := ⟨_, List.getElem?_eq_getElem hlt⟩
    have hxe := gm (enc := encM) (n := (i : Int)) hx (by omega)
    have hmem := List.mem_of_getElem? hx
    have htb := xGT (l.take i) ht fun x hx' => hm x (List.mem_of_mem_take hx')
    have htc := xMd l i
    have hap := xNl (htb.ok (by omega)) (ho m hmem) (hm m hmem)
    have hst : xAs (allT t (l.take i)) m = allT t (l.take (i + 1)) := by
      rw [List.take_add_one, hx, Option.toList_some, xDI]; rfl
    rw [hst] at hap
    generalize allT t (l.take i) = c at hap
    repeat first|refine sgo ?_|refine cf hap ?_|refine sop ?_
    exact agn (Q := fun _ _ => True) (i + 1) (by omega) xAS
  · have hge : i = l.length := by have h' := of_decide_eq_false h; omega
    subst hge
    rw [List.take_length]
    repeat first|refine sgo ?_|refine sop ?_
    exact xAC ⟨.inr rfl, oAny rfl⟩
set_option maxHeartbeats 1000000 in
theorem xRs {l : List MsgL} {t : List PairL} {c : Nat} (ht : Tb c t) (hc : c + l.countP xA9 ≤ 20) (hn : l.length ≤ 1000000) (ho : ∀ m ∈ l, MsgOk m) (hm : ∀ m ∈ l, MsgLen 8 m) : VC Tryz.prog 37 [.sh false (t.map encP), .sh false (l.map encM)] [] (.sh false ((allT t l).map encP)) [] := by
  have hml : (l.map encM).length = l.length := List.length_map _
  refine vcs vf37 ?_
  repeat first|refine sgo ?_|refine sop ?_
  refine xAE (fun (g : Nat) => [(0, .sh false ((allT t (l.take g)).map encP)), (1, .sh false (l.map encM)), (5, .int .i64 g)]) (fun _ => []) (fun g => l.length - g)
    (fun g => g ≤ l.length) 0 xAS (Nat.zero_le _) ?_
  intro i hi
  repeat first|refine sgo ?_|refine sop ?_
  refine cnd (fun h => xAA ?_) (fun h => xAD ?_)
  · have hlt : i < l.length := by have h' := of_decide_eq_true h; omega
    obtain ⟨m, hx⟩ : ∃ m, l[i]? = some m := ⟨_, List.getElem?_eq_getElem hlt⟩
    have hxe := gm (enc := encM) (n := (i : Int)) hx (by omega)
    have hmem := List.mem_of_getElem? hx
    have htb := xGT (l.take i) ht fun x hx' => hm x (List.mem_of_mem_take hx')
    have htc := xMd l i
    have hap := xKn (htb.ok (by omega)) (ho m hmem) (hm m hmem)
    rw [xHZ htb.s (ho m hmem)] at hap
    have hst : xAs (allT t (l.take i)) m = allT t (l.take (i + 1)) := by
      rw [List.take_add_one, hx, Option.toList_some, xDI]; rfl
    rw [hst] at hap
    generalize allT t (l.take i) = c at hap
    repeat first|refine sgo ?_|refine cf hap ?_|refine sop ?_
    exact agn (Q := fun _ _ => True) (i + 1) (by omega) xAS
  · have hge : i = l.length := by have h' := of_decide_eq_false h; omega
    subst hge
    rw [List.take_length]
    repeat first|refine sgo ?_|refine sop ?_
    exact xAC ⟨.inr rfl, oAny rfl⟩
theorem xGv {t : List PairL} {c : Nat} (h : Tb c t) (hc : c ≤ 20) : VC Tryz.prog 34 [.sh false (t.map encP), .sh false (t.map encP)] [] (.bool true) [] := by
  have h2 : t.length ≤ maxLen := Nat.le_trans (h.l hc) (by decide)
  have := xT9 (q := .sh false (t.map encP)) (p := .sh false (t.map encP)) (l := t) (m := t) Sl.sh Sl.sh h2 h2
  rwa [decide_eq_true rfl] at this
theorem xO2 {pv : List Str} (hl : pv.length ≤ 1000000) : VC Tryz.prog 14 [.sh false (pv.map encT)] [] (.sh false ((xAK pv).map encS)) [] := xEp (xMe Sl.sh hl) (xAa rfl rfl)
theorem xG0 {l : List Nat} : SpLen 8 (xAK (pvM l)) := by
  refine xRt (by decide) fun p hp => ?_
  obtain ⟨n, _, rfl⟩ := List.mem_map.1 (xRw hp)
  unfold xER
  split
  · have := (xB3 (xB2 (n / 2))).1; omega
  · have := xGD (n / 2); omega
theorem decR {l : List (List PV)} (h : InTy (.sl [.int .u8, .int .u8, .int .u8]) (.sh false l)) : ∃ xs : List RawL, l = xs.map encR ∧ xs.length ≤ maxLen := xIO h fun e hl hc => by
  obtain ⟨a, b, c, rfl⟩ := list3 hl
  obtain ⟨x, rfl, hx⟩ := xIm (hc 0 _ _ rfl rfl)
  obtain ⟨y, rfl, hy⟩ := xIm (hc 1 _ _ rfl rfl)
  obtain ⟨z, rfl, hz⟩ := xIm (hc 2 _ _ rfl rfl)
  exact ⟨⟨x, y, z, hx, hy, hz⟩, rfl⟩
theorem xJ2 (x : List RawM) (n : Nat) : (xD5 x n).countP xA9 ≤ n := Nat.le_trans List.countP_le_length (xNF x n)
end Go.Proofs
