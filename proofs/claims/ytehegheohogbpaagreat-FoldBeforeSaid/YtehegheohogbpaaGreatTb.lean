/- Tb -/
import Derived.Test.YtehegheohogbpaaGreatTa
import Derived.Test.YtehegheohogbpaaGreatPu
import Derived.Test.YtehegheohogbpaaGreatFa
open Go.V Go.Pu
set_option linter.unusedVariables false
set_option linter.unusedSimpArgs false
set_option maxRecDepth 20000
namespace Go.Proofs
def vc157 := vcm Tryz.prog 157
theorem vf157 : VF Tryz.prog 157 = some (36, vc157, [.tmp 6]) := by kernel_rfl
def vc112 := vcm Tryz.prog 112
theorem vf112 : VF Tryz.prog 112 = some (14, vc112, [.tmp 4]) := by kernel_rfl
def vc132 := vcm Tryz.prog 132
theorem vf132 : VF Tryz.prog 132 = some (9, vc132, [.tmp 4]) := by kernel_rfl
def vc143 := vcm Tryz.prog 143
theorem vf143 : VF Tryz.prog 143 = some (9, vc143, [.tmp 4]) := by kernel_rfl
def vc149 := vcm Tryz.prog 149
theorem vf149 : VF Tryz.prog 149 = some (12, vc149, [.tmp 4]) := by kernel_rfl
def vc155 := vcm Tryz.prog 155
theorem vf155 : VF Tryz.prog 155 = some (17, vc155, [.tmp 4]) := by kernel_rfl
def vc168 := vcm Tryz.prog 168
theorem vf168 : VF Tryz.prog 168 = some (30, vc168, [.tmp 4]) := by kernel_rfl
def vc47 := vcm Tryz.prog 47
theorem vf47 : VF Tryz.prog 47 = some (14, vc47, [.tmp 4]) := by kernel_rfl
def vc24 := vcm Tryz.prog 24
theorem vf24 : VF Tryz.prog 24 = some (18, vc24, [.tmp 4]) := by kernel_rfl
def mapN (f : PairL → PairL) (r : List PairL) (i : Nat) : List PairL := (r.take i).map f ++ r.drop i
theorem xL1 (f : PairL → PairL) (r : List PairL) (i : Nat) : (mapN f r i).length = r.length := by unfold mapN; simp; omega
theorem xL4 {f : PairL → PairL} {r : List PairL} {i : Nat} {p : PairL} (h : r[i]? = some p) : (mapN f r i)[i]? = some p := by
  have hi := (List.getElem?_eq_some_iff.1 h).1
  unfold mapN
  rw [List.getElem?_append_right (by simp; omega)]
  simp only [List.length_map, List.length_take, Nat.min_eq_left (Nat.le_of_lt hi), Nat.sub_self, List.getElem?_drop, Nat.add_zero, h]
theorem xLz {f : PairL → PairL} {r : List PairL} {i : Nat} {p : PairL} (h : r[i]? = some p) : (mapN f r i).set i (f p) = mapN f r (i + 1) := by
  have hi := (List.getElem?_eq_some_iff.1 h).1
  unfold mapN
  rw [xAn h, List.set_append_right _ _ (by simp; omega)]
  have e : i - (List.map f (r.take i)).length = 0 := by simp; omega
  rw [e, List.set_cons_zero, List.take_add_one, h]
  simp
theorem xL5 (f : PairL → PairL) (r : List PairL) : mapN f r r.length = r.map f := by unfold mapN; simp
theorem xP4 {α : Type} {l : List α} {i : Nat} {x : α} (h : l[i]? = some x) : l.set i x = l := by
  obtain ⟨hi, rfl⟩ := List.getElem?_eq_some_iff.1 h
  exact List.set_getElem_self hi
theorem xDl {g : Nat} {args : List PV} {l : List PairL} (h : VC Tryz.prog g args [] (ownV ⟨0, 0⟩ (l.map encP)) [blkV 3 (l.map encP)]) : VC Tryz.prog g args [] (.sh false (l.map encP)) [] := xIm h (xAZ rfl rfl)
set_option maxHeartbeats 1000000 in
theorem xNf {t : List PairL} (f to : Str) (hs : Srt t) (hl : t.length ≤ 100000000) (hk : ∀ p ∈ t, p.key.length ≤ 100000) (hf : f.length ≤ 100000) (hto : to.length ≤ 100000) : VC Tryz.prog 157 [.sh false (t.map encP), .str f, .str to] [] (ownV ⟨0, 0⟩ ((xBS t f to).map encP)) [blkV 3 ((xBS t f to).map encP)] := by
  refine vcs vf157 ?_
  have hp1 := xCO f (by omega)
  have hr1 := xQE (q := .sh false (t.map encP)) (xAL f) hs Sl.sh (by omega)
  rw [xJv] at hr1
  have hrl : (srcL t f).length ≤ t.length := List.length_filter_le ..
  have hrk : ∀ p ∈ srcL t f, p.key.length ≤ 100000 ∧ xAD p.key f = true := fun p hp => ⟨hk p (List.mem_filter.1 hp).1, xEM hp⟩
  have hfin : xBS t f to = (srcL t f).map (mvP f to) := rfl
  rw [hfin]
  generalize srcL t f = r at *
  have hmr : (r.map encP).length = r.length := List.length_map ..
  have cl := xHm (xs := r) (by omega)
  repeat first|refine sgo ?_|refine cv0 hp1 ?_|refine cf hr1 ?_|refine cv cl ?_|refine sop ?_
  refine xAF (fun (g : Nat × List PairL) => [(1, .str f), (2, .str to), (7, .own ⟨1, 8224⟩ (r.map encP).length 0 (r.map encP).length), (15, .int .i64 (r.map encP).length), (16, .int .i64 g.1)])
    (fun g => [(⟨1, 8224⟩, blkV 3 (g.2.map encP))]) (fun g => r.length - g.1)
    (fun g => g.1 ≤ r.length ∧ g.2 = mapN (mvP f to) r g.1) (0, r) goes ⟨Nat.zero_le _, rfl⟩ ?_
  rintro ⟨i, zs⟩ ⟨hi, hz⟩
  dsimp only at hi hz ⊢
  have hzl : zs.length = r.length := by rw [hz]; exact xL1 _ _ _
  have hzm : (zs.map encP).length = r.length := by rw [List.length_map]; exact hzl
  repeat first|refine sgo ?_|refine sop ?_
  refine cnd (fun h => xAB ?_) (fun h => xAE ?_)
  · have hlt : i < r.length := by have h' := of_decide_eq_true h; omega
    obtain ⟨p, hp⟩ : ∃ x, r[i]? = some x := ⟨_, List.getElem?_eq_getElem hlt⟩
    obtain ⟨hpk, hpb⟩ := hrk p (List.mem_of_getElem? hp)
    have hzp : zs[((i : Nat) : Int).toNat]? = some p := by rw [hz]; exact xL4 hp
    have hpe : (blkV 3 (zs.map encP)).els[((i : Nat) : Int).toNat]? = some (encP p) := by
      show (zs.map encP)[_]? = _
      rw [List.getElem?_map, hzp]; rfl
    have hset : zs.set ((i : Nat) : Int).toNat (mvP f to p) = mapN (mvP f to) r (i + 1) := by rw [hz]; exact xLz hp
    have hmv := xQU p.key f to (by omega) (by omega) (by omega)
    unfold xFC at hmv
    rw [if_pos hpb] at hmv
    repeat first|refine sgo ?_|refine cv0 hmv ?_|refine o_v (vstf encP (mvP f to p) hzp) ?_|refine sop ?_
    exact agn (i + 1, _) ⟨by simp only; omega, hset⟩ goes
  · have hge : i = r.length := by have h' := of_decide_eq_false h; omega
    subst hge
    rw [xL5] at hz
    repeat first|refine sgo ?_|refine sop ?_
    exact xAC ⟨.inr rfl, oOwn (congrArg (List.map encP) hz)⟩
theorem xTS {q : PV} {t : List PairL} {m : MsgL} (hs : Srt t) (hq : Sl q (t.map encP)) (hl : t.length ≤ 100000000) : VC Tryz.prog 112 [.agg (encM m), q] [] (.sh false ((putL t ⟨m.key, m.val, m.n⟩).map encP)) [] := by
  have h := xDl (xR7 (q := q) ⟨m.key, m.val, m.n⟩ hs hq hl)
  refine vcs vf112 ?_
  repeat first|refine sgo ?_|refine cf h ?_|refine sop ?_
  exact xAC ⟨.inr rfl, oAny rfl⟩
theorem xTU {q : PV} {t : List PairL} {m : MsgL} (hs : Srt t) (hq : Sl q (t.map encP)) (hl : t.length ≤ 100000000) (hm : MsgSz m) : VC Tryz.prog 132 [.agg (encM m), q] [] (.sh false ((delT t m.key).map encP)) [] := by
  have h := xDl (xR8 (q := q) m.key hs hq hl (by have := hm.key; omega))
  refine vcs vf132 ?_
  repeat first|refine sgo ?_|refine cf h ?_|refine sop ?_
  exact xAC ⟨.inr rfl, oAny rfl⟩
theorem xRE {q : PV} {t : List PairL} {m : MsgL} (hs : Srt t) (hq : Sl q (t.map encP)) (hl : t.length ≤ 100000000) : VC Tryz.prog 143 [.agg (encM m), q] [] (.sh false ((xBP t m.sp).map encP)) [] := by
  have h := xDl (xJR (q := q) m.sp hs hq hl)
  refine vcs vf143 ?_
  repeat first|refine sgo ?_|refine cf h ?_|refine sop ?_
  exact xAC ⟨.inr rfl, oAny rfl⟩
structure TabOk (N B : Nat) (t : List PairL) : Prop where
  s : Srt t
  l : t.length ≤ N
  k : ∀ p ∈ t, p.key.length ≤ B
theorem TabOk.mono {N B N' B' : Nat} {t : List PairL} (h : TabOk N B t) (hN : N ≤ N') (hB : B ≤ B') : TabOk N' B' t := ⟨h.s, Nat.le_trans h.l hN, fun p hp => Nat.le_trans (h.k p hp) hB⟩
theorem xKk {t : List PairL} {m : MsgL} (ht : TabOk 49000000 100000 t) (hm : MsgLen 8 m) : VC Tryz.prog 155 [.agg (encM m), .sh false (t.map encP)] [] (.sh false ((xCY t m).map encP)) [] := by
  have hs := ht.s
  have hl := ht.l
  have hfr := hm.fr
  have hto := hm.to
  have hp1 := xCO m.to (by omega)
  have hd := xDl (xJR (q := .sh false (t.map encP)) (xAL m.to) hs Sl.sh (by omega))
  have hmv := xDl (xNf m.fr m.to hs (by omega) ht.k (by omega) (by omega))
  have hdl : (xBP t (xAL m.to)).length ≤ t.length := List.length_filter_le ..
  have hml : (xBS t m.fr m.to).length ≤ t.length := by unfold xBS; rw [List.length_map]; exact List.length_filter_le ..
  have hu := xDl (xLb (q := .sh false ((xBP t (xAL m.to)).map encP)) (p := .sh false ((xBS t m.fr m.to).map encP)) Sl.sh Sl.sh (by omega) (by omega))
  refine vcs vf155 ?_
  repeat first|refine sgo ?_|refine cv0 hp1 ?_|refine cf hd ?_|refine cf hmv ?_|refine cf hu ?_|refine sop ?_
  exact xAC ⟨.inr rfl, oAny rfl⟩
theorem xKa (t : List PairL) (m : MsgL) : (xCY t m).length ≤ 2 * t.length := by
  have h := xDH (xBP t (xAL m.to)) (xBS t m.fr m.to)
  have hdl : (xBP t (xAL m.to)).length ≤ t.length := List.length_filter_le ..
  have hml : (xBS t m.fr m.to).length ≤ t.length := by unfold xBS; rw [List.length_map]; exact List.length_filter_le ..
  unfold xCY; omega
theorem xRD {t : List PairL} {m : MsgL} (ht : TabOk 49000000 100000 t) (hm : MsgLen 8 m) : VC Tryz.prog 149 [.agg (encM m), .sh false (t.map encP)] [] (.sh false ((xBP (xCY t m) (xAL m.fr)).map encP)) [] := by
  have hfr := hm.fr
  have hl := ht.l
  have hc := xKk ht hm
  have hp1 := xCO m.fr (by omega)
  have hcl := xKa t m
  have hd := xDl (xJR (q := .sh false ((xCY t m).map encP)) (xAL m.fr) (xFS ht.s m) Sl.sh (by omega))
  refine vcs vf149 ?_
  repeat first|refine sgo ?_|refine cf hc ?_|refine cv0 hp1 ?_|refine cf hd ?_|refine sop ?_
  exact xAC ⟨.inr rfl, oAny rfl⟩
theorem xNQ {r : List PairL} {m : MsgL} (hl : r.length ≤ 100000000) : VC Tryz.prog 168 [.agg (encM m), .sh false (r.map encP)] [] (ownV ⟨0, 0⟩ ((r.map (xCi m)).map encP)) [blkV 3 ((r.map (xCi m)).map encP)] := by
  refine vcs vf168 ?_
  have hmr : (r.map encP).length = r.length := List.length_map ..
  have cl := xHm (xs := r) (by omega)
  repeat first|refine sgo ?_|refine cv cl ?_|refine sop ?_
  refine xAF (fun (g : Nat × List PairL) => [(2, .ptr ⟨1, 0⟩ 1 0 0), (5, .own ⟨1, 8200⟩ (r.map encP).length 0 (r.map encP).length), (10, .int .i64 (r.map encP).length), (11, .int .i64 g.1)])
    (fun g => [(⟨1, 0⟩, ⟨true, false, 8, [encM m]⟩), (⟨1, 8200⟩, blkV 3 (g.2.map encP))]) (fun g => r.length - g.1)
    (fun g => g.1 ≤ r.length ∧ g.2 = mapN (xCi m) r g.1) (0, r) goes ⟨Nat.zero_le _, rfl⟩ ?_
  rintro ⟨i, zs⟩ ⟨hi, hz⟩
  dsimp only at hi hz ⊢
  have hzl : zs.length = r.length := by rw [hz]; exact xL1 _ _ _
  have hzm : (zs.map encP).length = r.length := by rw [List.length_map]; exact hzl
  repeat first|refine sgo ?_|refine sop ?_
  refine cnd (fun h => xAB ?_) (fun h => xAE ?_)
  · have hlt : i < r.length := by have h' := of_decide_eq_true h; omega
    obtain ⟨p, hp⟩ : ∃ x, r[i]? = some x := ⟨_, List.getElem?_eq_getElem hlt⟩
    have hzp : zs[((i : Nat) : Int).toNat]? = some p := by rw [hz]; exact xL4 hp
    have hpe : (blkV 3 (zs.map encP)).els[((i : Nat) : Int).toNat]? = some (encP p) := by
      show (zs.map encP)[_]? = _
      rw [List.getElem?_map, hzp]; rfl
    have hset : zs.set ((i : Nat) : Int).toNat (xCi m p) = mapN (xCi m) r (i + 1) := by rw [hz]; exact xLz hp
    repeat first|refine sgo ?_|refine cv0 (has_vc m.sp p.key) ?_|refine sop ?_
    refine cnd (fun h => ?_) (fun h => xAB ?_)
    · have hst : xCi m p = { p with stamp := m.n } := by unfold xCi; rw [if_pos h]
      rw [hst] at hset
      repeat first|refine sgo ?_|refine o_v (vstf encP ({ p with stamp := m.n } : PairL) hzp) ?_|refine sop ?_
      exact agn (i + 1, _) ⟨by simp only; omega, hset⟩ goes
    · have hst : xCi m p = p := by unfold xCi; rw [if_neg (by simp [h])]
      rw [hst, xP4 hzp] at hset
      repeat first|refine sgo ?_|refine sop ?_
      exact agn (i + 1, zs) ⟨by simp only; omega, hset⟩ goes
  · have hge : i = r.length := by have h' := of_decide_eq_false h; omega
    subst hge
    rw [xL5] at hz
    repeat first|refine sgo ?_|refine sop ?_
    exact xAC ⟨.inr rfl, oOwn (congrArg (List.map encP) hz)⟩
end Go.Proofs
open Go.V Go.Pu
set_option linter.unusedVariables false
set_option linter.unusedSimpArgs false
set_option maxRecDepth 20000
namespace Go.Proofs
def vc26 := vcm Tryz.prog 26
theorem vf26 : VF Tryz.prog 26 = some (45, vc26, [.tmp 4]) := by kernel_rfl
def vc28 := vcm Tryz.prog 28
theorem vf28 : VF Tryz.prog 28 = some (44, vc28, [.tmp 4]) := by kernel_rfl
theorem xPa {r : List PairL} {m : MsgL} (hl : r.length ≤ 100000000) : VC Tryz.prog 168 [.agg (encM m), .sh false (r.map encP)] [] (.sh false ((r.map (xCi m)).map encP)) [] := xDl (xNQ hl)
theorem xRC {t : List PairL} {m : MsgL} (ht : TabOk 49000000 100000 t) (hk : MsgOk m) (hl : MsgLen 8 m) : VC Tryz.prog 47 [.sh false (t.map encP), .agg (encM m)] [] (.sh false ((xC8 t m).map encP)) [] := by
  have hz := MsgSz.of hk hl
  have hs := ht.s
  have hn := ht.l
  have ho := xSh hk.k
  have a1 := xTS (q := .sh false (t.map encP)) (m := m) hs Sl.sh (by omega)
  have a2 := xTU (q := .sh false (t.map encP)) (m := m) hs Sl.sh (by omega) hz
  have a3 := xRE (q := .sh false (t.map encP)) (m := m) hs Sl.sh (by omega)
  have a4 := xRD (m := m) ht hl
  have a5 := xKk (m := m) ht hl
  have a6 := xPa (r := t) (m := m) (by omega)
  have hk := hk.k
  clear hz hl
  obtain ⟨k, m2, m3, m4, m5, m6, m7⟩ := m
  simp only at hk
  rcases six hk with rfl | rfl | rfl | rfl | rfl | rfl
  · refine vcs vf47 ?_
    repeat first|refine sgo ?_|refine cf ho ?_|refine o_v0 visn ?_|refine sop ?_
    refine cndt ?_
    repeat first|refine sgo ?_|refine cf a1 ?_|refine sop ?_
    exact xAC ⟨.inr rfl, oAny rfl⟩
  · refine vcs vf47 ?_
    repeat first|refine sgo ?_|refine cf ho ?_|refine o_v0 visn ?_|refine sop ?_
    refine cndt ?_
    repeat first|refine sgo ?_|refine cf a2 ?_|refine sop ?_
    exact xAC ⟨.inr rfl, oAny rfl⟩
  · refine vcs vf47 ?_
    repeat first|refine sgo ?_|refine cf ho ?_|refine o_v0 visn ?_|refine sop ?_
    refine cndt ?_
    repeat first|refine sgo ?_|refine cf a3 ?_|refine sop ?_
    exact xAC ⟨.inr rfl, oAny rfl⟩
  · refine vcs vf47 ?_
    repeat first|refine sgo ?_|refine cf ho ?_|refine o_v0 visn ?_|refine sop ?_
    refine cndt ?_
    repeat first|refine sgo ?_|refine cf a4 ?_|refine sop ?_
    exact xAC ⟨.inr rfl, oAny rfl⟩
  · refine vcs vf47 ?_
    repeat first|refine sgo ?_|refine cf ho ?_|refine o_v0 visn ?_|refine sop ?_
    refine cndt ?_
    repeat first|refine sgo ?_|refine cf a5 ?_|refine sop ?_
    exact xAC ⟨.inr rfl, oAny rfl⟩
  · refine vcs vf47 ?_
    repeat first|refine sgo ?_|refine cf ho ?_|refine o_v0 visn ?_|refine sop ?_
    refine cndt ?_
    repeat first|refine sgo ?_|refine cf a6 ?_|refine sop ?_
    exact xAC ⟨.inr rfl, oAny rfl⟩
theorem xOF {t : List PairL} {p x : PairL} (hs : Srt t) (hx : x ∈ putL t p) : x = p ∨ x ∈ t := by
  have h := Srt.find (xA4 hs) hx
  rw [xB3 hs] at h
  split at h
  · left; cases h; rfl
  · right; exact xKS h
theorem xSZ {t : List PairL} {p : PairL} (hs : Srt t) : (putL t p).length ≤ t.length + 1 := by
  cases hf : (xAM t p.key).isSome with
  | true => rw [← xJw hs hf]; simp
  | false => rw [← xOH hs hf]; simp; omega
theorem xPc {N B : Nat} {t : List PairL} (ht : TabOk N B t) (hN : 1 ≤ N) {m : MsgL} (hm : MsgLen 8 m) (h8 : 8 ≤ B) : TabOk (2 * N) (B + 8) (xC8 t m) := by
  have hs := ht.s
  have hl := ht.l
  have hk := ht.k
  have hcl := xKa t m
  have hck : ∀ p ∈ xCY t m, p.key.length ≤ B + 8 := by
    intro p hp
    unfold xCY at hp
    rcases xCL _ _ hp with h | h
    · have := hk p (List.mem_filter.1 h).1; omega
    · unfold xBS at h
      obtain ⟨q, hq, rfl⟩ := List.mem_map.1 h
      have h1 := hk q (List.mem_filter.1 hq).1
      have h2 := hm.to
      simp only [mvP, List.length_append, List.length_drop]
      omega
  refine ⟨xHu hs m, ?_, ?_⟩
  · unfold xC8
    repeat' split
    · have := xSZ (p := ⟨m.key, m.val, m.n⟩) hs; omega
    · have := xTI t m.key; omega
    · have : (xBP t m.sp).length ≤ t.length := List.length_filter_le ..
      omega
    · rw [List.length_map]; omega
    · have : (xBP (xCY t m) (xAL m.fr)).length ≤ (xCY t m).length := List.length_filter_le ..
      omega
    · omega
  · unfold xC8
    repeat' split
    · intro p hp
      rcases xOF hs hp with rfl | h
      · have := hm.key; simp only; omega
      · have := hk p h; omega
    · intro p hp; have := hk p (List.mem_filter.1 hp).1; omega
    · intro p hp; have := hk p (List.mem_filter.1 hp).1; omega
    · intro p hp
      obtain ⟨q, hq, rfl⟩ := List.mem_map.1 hp
      rw [xFX]; have := hk q hq; omega
    · intro p hp; exact hck p (List.mem_filter.1 hp).1
    · exact hck
theorem xLU : ∀ (l : List MsgL) {N B : Nat} {t : List PairL}, TabOk N B t → 1 ≤ N → 8 ≤ B → (∀ m ∈ l, MsgLen 8 m) → TabOk (2 ^ l.length * N) (B + 8 * l.length) (allT t l)
  | [], N, B, t, h, _, _, _ => by
    have e : allT t [] = t := rfl
    rw [e]; simpa using h
  | m :: l, N, B, t, h, hN, hB, hm => by
    have h1 := xPc h hN (hm m (by simp)) hB
    have h2 := xLU l h1 (by omega) (by omega) fun x hx => hm x (by simp [hx])
    refine h2.mono ?_ (by simp only [List.length_cons]; omega)
    rw [List.length_cons, Nat.pow_succ, Nat.mul_assoc]
    exact Nat.le_refl _
theorem xRT {a b : Nat} (h : a ≤ b) {N : Nat} : 2 ^ a * N ≤ 2 ^ b * N := Nat.mul_le_mul_right _ (Nat.pow_le_pow_right (by decide) h)
theorem xDp {l : List MsgL} {t : List PairL} {N B n : Nat} (ht : TabOk N B t) (hN : 1 ≤ N) (hB : 8 ≤ B) (hn : l.length ≤ n) (hn2 : 2 ^ n * N ≤ 49000000) (hb2 : B + 8 * n ≤ 100000) (ho : ∀ m ∈ l, MsgOk m) (hm : ∀ m ∈ l, MsgLen 8 m) : VC Tryz.prog 24 [.sh false (t.map encP), .sh false (l.map encM)] [] (.sh false ((allT t l).map encP)) [] := by
  have hml : (l.map encM).length = l.length := List.length_map _
  refine vcs vf24 ?_
  repeat first|refine sgo ?_|refine sop ?_
  refine xAF (fun (g : Nat) => [(0, .sh false ((allT t (l.take g)).map encP)), (7, .sh false (l.map encM)), (8, .int .i64 (l.map encM).length), (9, .int .i64 g)]) (fun _ => []) (fun g => l.length - g)
    (fun g => g ≤ l.length) 0 xCC (Nat.zero_le _) ?_
  intro i hi
  repeat first|refine sgo ?_|refine sop ?_
  refine cnd (fun h => xAB ?_) (fun h => xAE ?_)
  · have hlt : i < l.length := by have h' := of_decide_eq_true h; omega
    obtain ⟨m, hx⟩ : ∃ m, l[i]? = some m := ⟨_, List.getElem?_eq_getElem hlt⟩
    have hxe := gm (enc := encM) (n := (i : Int)) hx (by omega)
    have hmem := List.mem_of_getElem? hx
    have htb := xLU (l.take i) ht hN hB fun x hx' => hm x (List.mem_of_mem_take hx')
    have htl : (l.take i).length = i := by rw [List.length_take]; omega
    rw [htl] at htb
    have hp : 2 ^ i * N ≤ 2 ^ n * N := xRT (by omega)
    have hap := xRC (htb.mono (Nat.le_trans hp hn2) (by omega)) (ho m hmem) (hm m hmem)
    have hst : xC8 (allT t (l.take i)) m = allT t (l.take (i + 1)) := by
      rw [List.take_add_one, hx, Option.toList_some, xLV]; rfl
    rw [hst] at hap
    generalize allT t (l.take i) = c at hap
    repeat first|refine sgo ?_|refine cf hap ?_|refine sop ?_
    exact agn (Q := fun _ _ => True) (i + 1) (by omega) xCC
  · have hge : i = l.length := by have h' := of_decide_eq_false h; omega
    subst hge
    rw [List.take_length]
    repeat first|refine sgo ?_|refine sop ?_
    exact xAC ⟨.inr rfl, oAny rfl⟩
theorem xMK {l : List SpanL} {j : Nat} {s : SpanL} (k : Str) (h : l[j]? = some s) : inL (l.take (j + 1)) k = (inL (l.take j) k || hasL s k) := by
  rw [List.take_add_one, h, Option.toList_some, xCA]; simp [inL]
theorem xIa {t : List PairL} {i : Nat} {y : PairL} (f : PairL → Bool) (hy : t[i]? = some y) : (t.take (i + 1)).filter f = if f y = true then (t.take i).filter f ++ [y] else (t.take i).filter f := by
  rw [List.take_add_one, hy, Option.toList_some, List.filter_append]
  cases h : f y <;> simp [h]
set_option maxHeartbeats 1000000 in
theorem xK3 {t : List PairL} {d : List SpanL} (hl : t.length ≤ 100000000) (hd : d.length ≤ 1000) : VC Tryz.prog 26 [.sh false (t.map encP), .sh false (d.map encS)] [] (.sh false ((outT t d).map encP)) [] := by
  refine xDl ?_
  refine vcs vf26 ?_
  have hmt : (t.map encP).length = t.length := List.length_map ..
  have hmd : (d.map encS).length = d.length := List.length_map ..
  repeat first|refine sgo ?_|refine sop ?_
  refine xAF (fun (g : Nat × List PairL) => [(0, .sh false (t.map encP)), (1, .sh false (d.map encS)), (5, ownV ⟨1, 8192⟩ (g.2.map encP)), (6, .int .i64 g.1)])
    (fun g => [(⟨1, 8192⟩, blkV 3 (g.2.map encP))]) (fun g => t.length - g.1)
    (fun g => g.1 ≤ t.length ∧ g.2.length ≤ g.1 ∧ g.2 = (t.take g.1).filter (fun p => !inL d p.key)) (0, []) goes ⟨Nat.zero_le _, Nat.le_refl _, rfl⟩ ?_
  rintro ⟨i, o⟩ ⟨hi, hol, ho⟩
  dsimp only at hi hol ho ⊢
  repeat first|refine sgo ?_|refine sop ?_
  refine cnd (fun h => xAB ?_) (fun h => xAE ?_)
  · have hlt : i < t.length := by have h' := of_decide_eq_true h; omega
    have hlt2 : (i : Int) < ((t.map encP).length : Nat) := by omega
    obtain ⟨y, hy⟩ : ∃ x, t[i]? = some x := ⟨_, List.getElem?_eq_getElem hlt⟩
    have hye := gm (enc := encP) (n := (i : Int)) hy (by omega)
    have hst := xIa (fun p => !inL d p.key) hy
    rw [← ho] at hst
    repeat first|refine sgo ?_|refine sop ?_
    refine xAF (fun (g : Nat) => [(0, .sh false (t.map encP)), (1, .sh false (d.map encS)), (5, ownV ⟨1, 8192⟩ (o.map encP)), (6, .int .i64 i), (7, .bool (inL (d.take g) y.key)), (8, .int .i64 g)])
      (fun g => [(⟨1, 8192⟩, blkV 3 (o.map encP))]) (fun g => d.length - g) (fun g => g ≤ d.length) 0 goes (Nat.zero_le _) ?_
    intro j hj
    repeat first|refine sgo ?_|refine sop ?_
    refine cnd (fun h2 => xAB ?_) (fun h2 => xAE ?_)
    · have hlt3 : j < d.length := by have h' := of_decide_eq_true h2; omega
      have hlt4 : (j : Int) < ((d.map encS).length : Nat) := by omega
      obtain ⟨s, hs⟩ : ∃ x, d[j]? = some x := ⟨_, List.getElem?_eq_getElem hlt3⟩
      have hse := gm (enc := encS) (n := (j : Int)) hs (by omega)
      have hsi := xMK y.key hs
      have hh := xN9 s y.key
      cases hb : inL (d.take j) y.key with
      | true =>
        rw [hb, Bool.true_or] at hsi
        repeat first|refine sgo ?_|refine sop ?_
        exact agn (Q := fun _ _ => True) (j + 1) (by omega) (goes (h1 := by refine ⟨rfl, rfl, rfl, rfl, ?_, rfl, trivial⟩; exact congrArg (fun z => some (PV.bool z)) hsi.symm))
      | false =>
        rw [hb, Bool.false_or] at hsi
        repeat first|refine sgo ?_|refine cv0 hh ?_|refine sop ?_
        exact agn (Q := fun _ _ => True) (j + 1) (by omega) (goes (h1 := by refine ⟨rfl, rfl, rfl, rfl, ?_, rfl, trivial⟩; exact congrArg (fun z => some (PV.bool z)) hsi.symm))
    · have hge : j = d.length := by have h' := of_decide_eq_false h2; omega
      subst hge
      rw [List.take_length]
      repeat first|refine sgo ?_|refine sop ?_
      refine cnd (fun h2 => ?_) (fun h2 => xAB ?_)
      · rw [if_pos h2] at hst
        repeat first|refine sgo ?_|refine o_v (vap encP y) ?_|refine sop ?_
        exact agn (i + 1, o ++ [y]) ⟨by simp only; omega, by simp only [List.length_append, List.length_cons, List.length_nil]; omega, hst.symm⟩ goes
      · rw [if_neg (by rw [h2]; simp)] at hst
        repeat first|refine sgo ?_|refine sop ?_
        exact agn (i + 1, o) ⟨by simp only; omega, by simp only; omega, hst.symm⟩ goes
  · have hge : i = t.length := by have h' := of_decide_eq_false h; omega
    subst hge
    rw [List.take_length] at ho
    subst ho
    repeat first|refine sgo ?_|refine sop ?_
    exact xAC ⟨.inr rfl, oOwn rfl⟩
set_option maxHeartbeats 1000000 in
theorem pin_vc {t : List PairL} {d : List SpanL} (hl : t.length ≤ 100000000) (hd : d.length ≤ 1000) : VC Tryz.prog 28 [.sh false (t.map encP), .sh false (d.map encS)] [] (.sh false ((inT t d).map encP)) [] := by
  refine xDl ?_
  refine vcs vf28 ?_
  have hmt : (t.map encP).length = t.length := List.length_map ..
  have hmd : (d.map encS).length = d.length := List.length_map ..
  repeat first|refine sgo ?_|refine sop ?_
  refine xAF (fun (g : Nat × List PairL) => [(0, .sh false (t.map encP)), (1, .sh false (d.map encS)), (5, ownV ⟨1, 8192⟩ (g.2.map encP)), (6, .int .i64 g.1)])
    (fun g => [(⟨1, 8192⟩, blkV 3 (g.2.map encP))]) (fun g => t.length - g.1)
    (fun g => g.1 ≤ t.length ∧ g.2.length ≤ g.1 ∧ g.2 = (t.take g.1).filter (fun p => inL d p.key)) (0, []) goes ⟨Nat.zero_le _, Nat.le_refl _, rfl⟩ ?_
  rintro ⟨i, o⟩ ⟨hi, hol, ho⟩
  dsimp only at hi hol ho ⊢
  repeat first|refine sgo ?_|refine sop ?_
  refine cnd (fun h => xAB ?_) (fun h => xAE ?_)
  · have hlt : i < t.length := by have h' := of_decide_eq_true h; omega
    have hlt2 : (i : Int) < ((t.map encP).length : Nat) := by omega
    obtain ⟨y, hy⟩ : ∃ x, t[i]? = some x := ⟨_, List.getElem?_eq_getElem hlt⟩
    have hye := gm (enc := encP) (n := (i : Int)) hy (by omega)
    have hst := xIa (fun p => inL d p.key) hy
    rw [← ho] at hst
    repeat first|refine sgo ?_|refine sop ?_
    refine xAF (fun (g : Nat) => [(0, .sh false (t.map encP)), (1, .sh false (d.map encS)), (5, ownV ⟨1, 8192⟩ (o.map encP)), (6, .int .i64 i), (7, .bool (inL (d.take g) y.key)), (8, .int .i64 g)])
      (fun g => [(⟨1, 8192⟩, blkV 3 (o.map encP))]) (fun g => d.length - g) (fun g => g ≤ d.length) 0 goes (Nat.zero_le _) ?_
    intro j hj
    repeat first|refine sgo ?_|refine sop ?_
    refine cnd (fun h2 => xAB ?_) (fun h2 => xAE ?_)
    · have hlt3 : j < d.length := by have h' := of_decide_eq_true h2; omega
      have hlt4 : (j : Int) < ((d.map encS).length : Nat) := by omega
      obtain ⟨s, hs⟩ : ∃ x, d[j]? = some x := ⟨_, List.getElem?_eq_getElem hlt3⟩
      have hse := gm (enc := encS) (n := (j : Int)) hs (by omega)
      have hsi := xMK y.key hs
      have hh := xN9 s y.key
      cases hb : inL (d.take j) y.key with
      | true =>
        rw [hb, Bool.true_or] at hsi
        repeat first|refine sgo ?_|refine sop ?_
        exact agn (Q := fun _ _ => True) (j + 1) (by omega) (goes (h1 := by refine ⟨rfl, rfl, rfl, rfl, ?_, rfl, trivial⟩; exact congrArg (fun z => some (PV.bool z)) hsi.symm))
      | false =>
        rw [hb, Bool.false_or] at hsi
        repeat first|refine sgo ?_|refine cv0 hh ?_|refine sop ?_
        exact agn (Q := fun _ _ => True) (j + 1) (by omega) (goes (h1 := by refine ⟨rfl, rfl, rfl, rfl, ?_, rfl, trivial⟩; exact congrArg (fun z => some (PV.bool z)) hsi.symm))
    · have hge : j = d.length := by have h' := of_decide_eq_false h2; omega
      subst hge
      rw [List.take_length]
      repeat first|refine sgo ?_|refine sop ?_
      refine cnd (fun h2 => ?_) (fun h2 => xAB ?_)
      · rw [if_pos h2] at hst
        repeat first|refine sgo ?_|refine o_v (vap encP y) ?_|refine sop ?_
        exact agn (i + 1, o ++ [y]) ⟨by simp only; omega, by simp only [List.length_append, List.length_cons, List.length_nil]; omega, hst.symm⟩ goes
      · rw [if_neg (by rw [h2]; simp)] at hst
        repeat first|refine sgo ?_|refine sop ?_
        exact agn (i + 1, o) ⟨by simp only; omega, by simp only; omega, hst.symm⟩ goes
  · have hge : i = t.length := by have h' := of_decide_eq_false h; omega
    subst hge
    rw [List.take_length] at ho
    subst ho
    repeat first|refine sgo ?_|refine sop ?_
    exact xAC ⟨.inr rfl, oOwn rfl⟩
end Go.Proofs
open Go.V Go.Pu
set_option linter.unusedVariables false
set_option linter.unusedSimpArgs false
set_option maxRecDepth 20000
namespace Go.Proofs
theorem decR {l : List (List PV)} (h : InTy (.sl [.int .u8, .int .u8, .int .u8]) (.sh false l)) : ∃ xs : List RawL, l = xs.map encR ∧ xs.length ≤ maxLen := xHg h fun e hl hc => by
  obtain ⟨a, b, c, rfl⟩ := list3 hl
  obtain ⟨x, rfl, hx⟩ := xJJ (hc 0 _ _ rfl rfl)
  obtain ⟨y, rfl, hy⟩ := xJJ (hc 1 _ _ rfl rfl)
  obtain ⟨z, rfl, hz⟩ := xJJ (hc 2 _ _ rfl rfl)
  exact ⟨⟨x, y, z, hx, hy, hz⟩, rfl⟩
theorem xQq (n : Nat) : (keyT n).length ≤ 20 := by
  have h : n % 24 < 24 := Nat.mod_lt _ (by decide)
  unfold keyT
  generalize n % 24 = m at h
  have : ∀ m, m < 24 → (if m < 20 then pathsL.getD (m / 5) [] ++ endsL.getD (m % 5) [] else restL.getD (m - 20) []).length ≤ 20 := by decide
  exact this m h
theorem xOi (l : List RawL) : ∀ p ∈ xFG l, p.key.length ≤ 20 := by
  have key : ∀ (l : List RawL) (t : List PairL), (∀ p ∈ t, p.key.length ≤ 20) → ∀ p ∈ l.foldl (fun t x => putL t (xEr x)) t, p.key.length ≤ 20 := by
    intro l
    induction l with
    | nil => intro t h; exact h
    | cons x l ih =>
      intro t h
      refine ih _ (fun p hp => ?_)
      have hp : p ∈ putL t (xEr x) := hp
      rw [xFZ] at hp
      rcases xJG hp with rfl | hp
      · exact xQq _
      · exact h p hp
  exact key _ _ (by simp)
theorem xD8 (l : List RawL) : TabOk 40 20 (xFG l) := ⟨xOg l, xOh l, xOi l⟩
theorem xOj (ts : List RawL) : VC Tryz.prog 22 [.sh false (ts.map encR)] [] (.sh false ((xFG ts).map encP)) [] := xDl (xQj Sl.sh)
theorem xIt {t : List PairL} (h : t.length ≤ 100000000) : VC Tryz.prog 23 [.sh false (t.map encP), .sh false (t.map encP)] [] (.bool true) [] := by
  have h2 : t.length ≤ maxLen := Nat.le_trans h (by decide)
  have := xSQ (q := .sh false (t.map encP)) (p := .sh false (t.map encP)) (l := t) (m := t) Sl.sh Sl.sh h2 h2
  rwa [decide_eq_true rfl] at this
theorem xMm {N B : Nat} {t : List PairL} {l : List MsgL} {n : Nat} (ht : TabOk N B t) (hN : 1 ≤ N) (hB : 8 ≤ B) (hn : l.length ≤ n) (h2 : 2 ^ n * N ≤ 49000000) (hm : ∀ m ∈ l, MsgLen 8 m) : TabOk (2 ^ n * N) (B + 8 * n) (allT t l) :=
  (xLU l ht hN hB hm).mono (xRT hn) (by omega)
theorem xJS : ∀ (r : List MsgL) (d : List SpanL), (xFR r d).length ≤ d.length + 3 * r.length
  | [], d => by simp [xFR]
  | m :: r, d => by
    rw [xFR, List.length_cons]
    split
    · have := xJS r d; omega
    · have := xJS r (nxtL m d)
      have := xK8 m d
      omega
theorem xPA (l : List MsgL) : (xBV l []).2.length ≤ 3 * l.length := by
  have := xJS l.reverse (xAO [])
  rw [List.length_reverse] at this
  simpa [xBV, xGr] using this
theorem xCZ {a b : List MsgL} (h : a.Sublist b) (hb : ∀ m ∈ b, MsgLen 8 m) : ∀ m ∈ a, MsgLen 8 m := fun m hm => hb m (h.subset hm)
theorem xF0 {a b : List MsgL} (h : a.Sublist b) (hb : ∀ m ∈ b, MsgOk m) : ∀ m ∈ a, MsgOk m := fun m hm => hb m (h.subset hm)
theorem xMA (l : List MsgL) (d : List SpanL) : (xBV l d).1.Sublist l := by
  have h := (xFJ l.reverse (xAO d)).reverse
  rwa [List.reverse_reverse] at h
end Go.Proofs
