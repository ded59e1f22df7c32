/- Fb -/
import Derived.Test.YtehekbmdfbjoeaaGreatFa
import Derived.Test.YtehekbmdfbjoeaaGreatVD
open Go.V Go.Pu
set_option linter.unusedVariables false
set_option linter.unusedSimpArgs false
set_option maxRecDepth 20000
namespace Go.Proofs
def vc47 := vcm Tryz.prog 47
theorem vf47 : VF Tryz.prog 47 = some (87, vc47, [.tmp 6, .tmp 7]) := by kernel_rfl
theorem st_mg {s : SpanL} {w : WayL} {m : MsgL} (hm : xBA m = true) (h1 : xCM m s = true) (h2 : xFP w.blk (xAw m) = true) : xAg s w m = ⟨w.go ++ [m], w.stay, w.blk⟩ := by
  unfold xAg; rw [if_pos hm, h1, h2]; rfl
theorem st_ms {s : SpanL} {w : WayL} {m : MsgL} (hm : xBA m = true) (h : (xCM m s && xFP w.blk (xAw m)) = false) : xAg s w m = ⟨w.go, w.stay ++ [m], w.blk ++ xAw m⟩ := by
  unfold xAg; rw [if_pos hm, h]; rfl
theorem st_n {s : SpanL} {w : WayL} {m : MsgL} (hm : xBA m = false) (h : xAx m s = []) : xAg s w m = ⟨w.go, w.stay ++ [m], w.blk⟩ := by
  unfold xAg; rw [if_neg (by rw [hm]; simp), h]
theorem st_pg {s : SpanL} {w : WayL} {m p : MsgL} (hm : xBA m = false) (h : xAx m s = [p]) (h2 : xFP w.blk (xAG p) = true) : xAg s w m = ⟨w.go ++ [p], w.stay ++ xCs m s, w.blk⟩ := by
  unfold xAg; rw [if_neg (by rw [hm]; simp), h]; simp only; rw [if_pos h2]
theorem st_ps {s : SpanL} {w : WayL} {m p : MsgL} (hm : xBA m = false) (h : xAx m s = [p]) (h2 : xFP w.blk (xAG p) = false) : xAg s w m = ⟨w.go, w.stay ++ [m], w.blk ++ xAG p⟩ := by
  unfold xAg; rw [if_neg (by rw [hm]; simp), h]; simp only; rw [if_neg (by rw [h2]; simp)]
theorem xUK {m : MsgL} (hm : MsgSz m) {s : SpanL} {p : MsgL} {q : List MsgL} (h : xAx m s = p :: q) : MsgSz p := by
  unfold xAx at h
  split at h
  · split at h
    · cases h
    · cases h; exact ⟨hm.k, hm.key, hm.fr, hm.to⟩
  · split at h
    · cases h; exact hm
    · cases h
theorem xQX {s : SpanL} {buf : List MsgL} {i : Nat} {m : MsgL} (hx : buf[i]? = some m) {w : WayL} (h : (buf.take i).foldl (xAg s) ⟨[], [], []⟩ = w) : (buf.take (i + 1)).foldl (xAg s) ⟨[], [], []⟩ = xAg s w m := by
  rw [List.take_add_one, hx, Option.toList_some, List.foldl_append, h]; rfl
set_option maxHeartbeats 4000000 in
theorem xRn {q : PV} {pv : List Str} (hq : Sl q (pv.map encT)) (hpl : pv.length ≤ 1000000) {buf : List MsgL} (hb : buf.length ≤ 1000) (hm : ∀ m ∈ buf, MsgSz m) {i0 : Nat} {s : SpanL} (hs : (xAK pv)[i0]? = some s) :
    VC Tryz.prog 47 [.sh false (buf.map encM), q, .int .i64 i0] [] (.tup [.sh false ((xAf buf s).go.map encM), .sh false ((xAf buf s).stay.map encM)]) [] := by
  have har := xRE hq hpl hs
  have hcl := hq.closed
  have hml : (buf.map encM).length = buf.length := List.length_map _
  refine xCp vf47 ?_ (Nat.le_of_ble_eq_true rfl) (by intro vs h; cases h; simp)
  repeat first|refine sgo ?_|refine cv0 har ?_|refine sop ?_
  refine xAE (fun (g : Nat × WayL) => [(8, .ptr ⟨1, 8216⟩ 1 0 0), (9, .ptr ⟨1, 16384⟩ 1 0 0), (10, ownV ⟨1, 5⟩ (g.2.go.map encM)), (11, ownV ⟨1, 6⟩ (g.2.stay.map encM)), (19, .sh false (buf.map encM)), (20, .int .i64 (buf.map encM).length), (21, .int .i64 g.1)])
    (fun g => [(⟨1, 8216⟩, ⟨true, false, 2, [encS s]⟩), (⟨1, 16384⟩, ⟨true, false, 1, [[ownV ⟨1, 7⟩ (g.2.blk.map encS)]]⟩), (⟨1, 7⟩, blkV 2 (g.2.blk.map encS)), (⟨1, 5⟩, blkV 8 (g.2.go.map encM)), (⟨1, 6⟩, blkV 8 (g.2.stay.map encM))]) (fun g => buf.length - g.1)
    (fun g => g.1 ≤ buf.length ∧ (buf.take g.1).foldl (xAg s) ⟨[], [], []⟩ = g.2) (0, ⟨[], [], []⟩)
    ((((Imp.nilH (b := ⟨1, 7⟩) (b1 := ⟨1, 16384⟩) (esz := 2) rfl rfl (by decide)).trans (Imp.nil (t := 10) (b := ⟨1, 5⟩) (esz := 8) rfl rfl (by decide))).trans (Imp.nil (t := 11) (b := ⟨1, 6⟩) (esz := 8) rfl rfl (by decide))).trans xAS) ⟨Nat.zero_le _, rfl⟩ ?_
  rintro ⟨i, ⟨go, st, bl⟩⟩ ⟨hi, hv⟩
  have hcount := xGH s (buf.take i) ⟨[], [], []⟩
  rw [hv] at hcount
  have hti : (buf.take i).length ≤ 1000 := by rw [List.length_take]; omega
  dsimp only at hi hv hcount ⊢
  have hgl : go.length + st.length ≤ 3000 := by have := hcount.2.1; simp only [List.length_nil] at this; omega
  have hbl : bl.length ≤ 3000 := by have := hcount.2.2; simp only [List.length_nil] at this; omega
  clear hcount
  repeat first|refine sgo ?_|refine sop ?_
  refine cnd (fun h => xAA ?_) (fun h => xAD ?_)
  · have hlt : i < buf.length := by have h' := of_decide_eq_true h; omega
    obtain ⟨m, hx⟩ : ∃ m, buf[i]? = some m := ⟨_, List.getElem?_eq_getElem hlt⟩
    have hxe := gm (enc := encM) (n := (i : Int)) hx (by omega)
    have hmz := hm m (List.mem_of_getElem? hx)
    have hst := xQX hx hv
    have hrl := xDg m
    have hwl := xBh m
    have hbo : (xAw m).length ≤ 3 := by unfold xAw; rw [List.length_append]; omega
    have hmv := xM6 m
    cases hmb : xBA m with
    | true =>
      rw [hmb] at hmv
      have hr := xMo hmz
      have hw := xFS hmz
      have hc := xD9 (xOV (q := .sh false ([xA2 m, xAG m].map xKI)) (ls := [xA2 m, xAG m]) Sl.sh (by simp) (by simp [totS]; omega))
      have e : ([xA2 m, xAG m].flatten : List SpanL) = xAw m := by simp [xAw]
      rw [e] at hc
      have hli := xQB hmz s
      have hfr := xQV (b := bl) (l := xAw m) (by omega) (by omega)
      have had := xTZ (b := bl) (l := xAw m) (by omega) (by omega)
      cases hl1 : xCM m s with
      | true =>
        rw [hl1] at hli
        cases hf1 : xFP bl (xAw m) with
        | true =>
          rw [hf1] at hfr
          rw [st_mg hmb hl1 hf1] at hst
          repeat first|refine sgo ?_|refine cv0 hmv ?_|refine sop ?_
          refine cndt ?_
          repeat first|refine sgo ?_|refine cf hr ?_|refine cf hw ?_|refine cf hc ?_|refine cv0 hli ?_|refine cl (lent := [⟨1, 16384⟩, ⟨1, 7⟩]) hfr ?_|refine sop ?_
          refine cndt ?_
          repeat first|refine sgo ?_|refine o_v (vap encM m) ?_|refine sop ?_
          refine xAD ?_
          repeat first|refine sgo ?_|refine sop ?_
          exact agn (Q := fun _ _ => True) (i + 1, ⟨go ++ [m], st, bl⟩) ⟨by simp only; omega, hst⟩ xAS
        | false =>
          rw [hf1] at hfr
          rw [st_ms hmb (by rw [hl1, hf1]; rfl)] at hst
          repeat first|refine sgo ?_|refine cv0 hmv ?_|refine sop ?_
          refine cndt ?_
          repeat first|refine sgo ?_|refine cf hr ?_|refine cf hw ?_|refine cf hc ?_|refine cv0 hli ?_|refine cl (lent := [⟨1, 16384⟩, ⟨1, 7⟩]) hfr ?_|refine sop ?_
          refine cndf (xAA ?_)
          repeat first|refine sgo ?_|refine o_v (vap encM m) ?_|refine cl (lent := [⟨1, 16384⟩, ⟨1, 7⟩]) had ?_|refine sop ?_
          refine xAD ?_
          repeat first|refine sgo ?_|refine sop ?_
          exact agn (Q := fun _ _ => True) (i + 1, ⟨go, st ++ [m], bl ++ xAw m⟩) ⟨by simp only; omega, hst⟩ xAS
      | false =>
        rw [hl1] at hli
        rw [st_ms hmb (by rw [hl1]; rfl)] at hst
        repeat first|refine sgo ?_|refine cv0 hmv ?_|refine sop ?_
        refine cndt ?_
        repeat first|refine sgo ?_|refine cf hr ?_|refine cf hw ?_|refine cf hc ?_|refine cv0 hli ?_|refine sop ?_
        refine cndf (xAA ?_)
        repeat first|refine sgo ?_|refine o_v (vap encM m) ?_|refine cl (lent := [⟨1, 16384⟩, ⟨1, 7⟩]) had ?_|refine sop ?_
        refine xAD ?_
        repeat first|refine sgo ?_|refine sop ?_
        exact agn (Q := fun _ _ => True) (i + 1, ⟨go, st ++ [m], bl ++ xAw m⟩) ⟨by simp only; omega, hst⟩ xAS
    | false =>
      rw [hmb] at hmv
      have hp := xG3 hmz s
      cases hpm : xAx m s with
      | nil =>
        rw [hpm] at hp
        rw [st_n hmb hpm] at hst
        repeat first|refine sgo ?_|refine cv0 hmv ?_|refine sop ?_
        refine cndf (xAA ?_)
        repeat first|refine sgo ?_|refine cf hp ?_|refine sop ?_
        refine cndt ?_
        repeat first|refine sgo ?_|refine o_v (vap encM m) ?_|refine sop ?_
        exact agn (Q := fun _ _ => True) (i + 1, ⟨go, st ++ [m], bl⟩) ⟨by simp only; omega, hst⟩ xAS
      | cons p r =>
        obtain ⟨rfl, _⟩ := xI2 hpm
        rw [hpm] at hp
        have hpz := xUK hmz hpm
        have hpw := xFS hpz
        have hpl := xBh p
        have hfr := xQV (b := bl) (l := xAG p) (by omega) (by omega)
        have had := xTZ (b := bl) (l := xAG p) (by omega) (by omega)
        have hlf := xUl (m := m) s
        have hlfl := xNK m s
        cases hf1 : xFP bl (xAG p) with
        | true =>
          rw [hf1] at hfr
          rw [st_pg hmb hpm hf1] at hst
          repeat first|refine sgo ?_|refine cv0 hmv ?_|refine sop ?_
          refine cndf (xAA ?_)
          repeat first|refine sgo ?_|refine cf hp ?_|refine sop ?_
          refine cndf ?_
          repeat first|refine sgo ?_|refine cf hpw ?_|refine cl (lent := [⟨1, 16384⟩, ⟨1, 7⟩]) hfr ?_|refine sop ?_
          refine cndt ?_
          repeat first|refine sgo ?_|refine o_v (vaps encM go [p]) ?_|refine cf hlf ?_|refine o_v (vaps encM st (xCs m s)) ?_|refine sop ?_
          exact agn (Q := fun _ _ => True) (i + 1, ⟨go ++ [p], st ++ xCs m s, bl⟩) ⟨by simp only; omega, hst⟩ xAS
        | false =>
          rw [hf1] at hfr
          rw [st_ps hmb hpm hf1] at hst
          repeat first|refine sgo ?_|refine cv0 hmv ?_|refine sop ?_
          refine cndf (xAA ?_)
          repeat first|refine sgo ?_|refine cf hp ?_|refine sop ?_
          refine cndf ?_
          repeat first|refine sgo ?_|refine cf hpw ?_|refine cl (lent := [⟨1, 16384⟩, ⟨1, 7⟩]) hfr ?_|refine sop ?_
          refine cndf ?_
          repeat first|refine sgo ?_|refine o_v (vap encM m) ?_|refine cf hpw ?_|refine cl (lent := [⟨1, 16384⟩, ⟨1, 7⟩]) had ?_|refine sop ?_
          exact agn (Q := fun _ _ => True) (i + 1, ⟨go, st ++ [m], bl ++ xAG p⟩) ⟨by simp only; omega, hst⟩ xAS
  · have hge : i = buf.length := by have h' := of_decide_eq_false h; omega
    subst hge
    rw [List.take_length] at hv
    have hfin : xAf buf s = ⟨go, st, bl⟩ := hv
    rw [hfin]
    refine xE9 ((Imp.wr (t := 10) rfl (xAa rfl rfl)).trans (Imp.wr (t := 11) rfl (xAa rfl rfl))) ?_
    repeat first|refine sgo ?_|refine sop ?_
    exact xAC ⟨.inr rfl, oAny rfl⟩
end Go.Proofs
open Go.V Go.Pu
set_option linter.unusedVariables false
set_option linter.unusedSimpArgs false
set_option maxRecDepth 20000
namespace Go.Proofs
def vc14 := vcm Tryz.prog 14
theorem vf14 : VF Tryz.prog 14 = some (6, vc14, [.tmp 2]) := by kernel_rfl
def vc16 := vcm Tryz.prog 16
theorem vf16 : VF Tryz.prog 16 = some (22, vc16, [.tmp 4]) := by kernel_rfl
def vc13 := vcm Tryz.prog 13
theorem vf13 : VF Tryz.prog 13 = some (42, vc13, [.tmp 2]) := by kernel_rfl
def vc31 := vcm Tryz.prog 31
theorem vf31 : VF Tryz.prog 31 = some (30, vc31, [.tmp 4]) := by kernel_rfl
def vc39 := vcm Tryz.prog 39
theorem vf39 : VF Tryz.prog 39 = some (27, vc39, [.tmp 4]) := by kernel_rfl
def vc21 := vcm Tryz.prog 21
theorem vf21 : VF Tryz.prog 21 = some (29, vc21, [.tmp 4]) := by kernel_rfl
def vc24 := vcm Tryz.prog 24
theorem vf24 : VF Tryz.prog 24 = some (27, vc24, [.tmp 4]) := by kernel_rfl
theorem xMe {q : PV} {pv : List Str} (hq : Sl q (pv.map encT)) (hl : pv.length ≤ 1000000) : VC Tryz.prog 14 [q] [] (ownV ⟨0, 0⟩ ((xAK pv).map encS)) [blkV 2 ((xAK pv).map encS)] := by
  have hp := xPO allS hq hl
  have e : xBT allS [] pv = xAK pv := rfl
  rw [e] at hp
  have hc := hq.closed
  refine vcs vf14 ?_
  repeat first|refine sgo ?_|refine cv hp ?_|refine sop ?_
  exact xAC ⟨.inr rfl, oOwn rfl⟩
def cntL (k : Str) (l : List Str) : Nat := l.countP fun p => ble p k
theorem xSm {k : Str} {l : List Str} {i : Nat} {x : Str} (hx : l[i]? = some x) : cntL k (l.take (i + 1)) = cntL k (l.take i) + if ble x k = true then 1 else 0 := by
  unfold cntL
  rw [List.take_add_one, hx, Option.toList_some, List.countP_append, List.countP_singleton]
theorem xTR (k : Str) : ∀ {l : List Str}, Asc l → cntL k l = atL k l
  | [], _ => rfl
  | x :: l, h => by
    obtain ⟨h3, h4⟩ := List.pairwise_cons.1 h.2
    have ih := xTR k (l := l) ⟨fun z hz => h.1 z (by simp [hz]), h4⟩
    unfold cntL at ih ⊢
    rw [List.countP_cons, atL]
    split
    · rw [ih]
    · rename_i hb
      have : l.countP (fun p => ble p k) = 0 := by
        rw [List.countP_eq_zero]
        intro y hy
        have h5 := h3 y hy
        intro hb2
        exact hb (ble_iff.2 (.inl (xAb h5 hb2)))
      rw [this]
theorem xUk (a b : Str) : (Op.bytesLess a b || a == b) = ble a b := by
  rw [Bool.eq_iff_iff, ble_iff]
  simp
theorem rkid_vc {q : PV} {pv : List Str} (k : Str) (ha : Asc pv) (hq : Sl q (pv.map encT)) (hl : pv.length ≤ 1000000) : VC Tryz.prog 16 [.str k, q] [] (.int .i64 (atL k pv)) [] := by
  rw [← xTR k ha]
  have hc := hq.closed
  have hml : (pv.map encT).length = pv.length := List.length_map _
  refine vcs vf16 ?_
  repeat first|refine sgo ?_|refine sop ?_
  refine xAE (fun (g : Nat) => [(0, .str k), (1, q), (5, .int .i64 (cntL k (pv.take g))), (6, .int .i64 g)]) (fun g => []) (fun g => pv.length - g)
    (fun g => g ≤ pv.length) 0 xAS (Nat.zero_le _) ?_
  intro i hi
  have hcl : cntL k (pv.take i) ≤ i := by
    have := List.countP_le_length (p := fun p => ble p k) (l := pv.take i)
    unfold cntL
    rw [List.length_take] at this
    omega
  repeat first|refine sgo ?_|refine sop ?_
  refine cnd (fun h => xAA ?_) (fun h => xAD ?_)
  · have hlt : i < pv.length := by have h' := of_decide_eq_true h; omega
    obtain ⟨x, hx⟩ : ∃ m, pv[i]? = some m := ⟨_, List.getElem?_eq_getElem hlt⟩
    have hxe := gm (enc := encT) (n := (i : Int)) hx (by omega)
    have hst := xSm (k := k) hx
    have hle := xUk x k
    repeat first|refine sgo ?_|refine sop ?_
    refine cnd (fun h2 => ?_) (fun h2 => xAA ?_)
    · rw [hle] at h2
      rw [if_pos h2] at hst
      repeat first|refine sgo ?_|refine sop ?_
      refine agn (Q := fun _ _ => True) (i + 1) (by omega) (xAS (h1 := by refine ⟨rfl, rfl, ?_, rfl, trivial⟩; exact congrArg (fun z => some (PV.int .i64 z)) (by rw [hst]; omega)))
    · rw [hle] at h2
      rw [if_neg (by rw [h2]; simp)] at hst
      repeat first|refine sgo ?_|refine sop ?_
      refine agn (Q := fun _ _ => True) (i + 1) (by omega) (xAS (h1 := by refine ⟨rfl, rfl, ?_, rfl, trivial⟩; exact congrArg (fun z => some (PV.int .i64 z)) (by rw [hst]; omega)))
  · have hge : i = pv.length := by have h' := of_decide_eq_false h; omega
    subst hge
    rw [List.take_length]
    repeat first|refine sgo ?_|refine sop ?_
    exact xAC ⟨.inr rfl, oAny rfl⟩
theorem xFV {q p : PV} {a b : List SpanL} (hq : Sl q (a.map encS)) (hp : Sl p (b.map encS)) (hl : a.length ≤ 60000) (hm : b.length ≤ 60000) : VC Tryz.prog 31 [q, p] [] (.bool (xBx a b)) [] := by
  have hc := hq.closed
  have hc2 := hp.closed
  have hml : (a.map encS).length = a.length := List.length_map _
  have hml2 : (b.map encS).length = b.length := List.length_map _
  refine vcs vf31 ?_
  repeat first|refine sgo ?_|refine sop ?_
  refine xAE (fun (g : Nat) => [(0, q), (1, p), (5, .int .i64 g)]) (fun g => []) (fun g => a.length - g)
    (fun g => g ≤ a.length ∧ (a.take g).any (fun x => b.any fun y => tch x y) = false) 0 xAS ⟨Nat.zero_le _, rfl⟩ ?_
  rintro i ⟨hi, hv⟩
  repeat first|refine sgo ?_|refine sop ?_
  refine cnd (fun h => xAA ?_) (fun h => xAD ?_)
  · have hlt : i < a.length := by have h' := of_decide_eq_true h; omega
    obtain ⟨x, hx⟩ : ∃ m, a[i]? = some m := ⟨_, List.getElem?_eq_getElem hlt⟩
    have hxe := gm (enc := encS) (n := (i : Int)) hx (by omega)
    repeat first|refine sgo ?_|refine sop ?_
    refine xAE (fun (g : Nat) => [(0, q), (1, p), (5, .int .i64 i), (6, .int .i64 g)]) (fun g => []) (fun g => b.length - g)
      (fun g => g ≤ b.length ∧ (b.take g).any (fun y => tch x y) = false) 0 xAS ⟨Nat.zero_le _, rfl⟩ ?_
    rintro j ⟨hj, hw⟩
    repeat first|refine sgo ?_|refine sop ?_
    refine cnd (fun h => xAA ?_) (fun h => xAD ?_)
    · have hlt2 : j < b.length := by have h' := of_decide_eq_true h; omega
      obtain ⟨y, hy⟩ : ∃ m, b[j]? = some m := ⟨_, List.getElem?_eq_getElem hlt2⟩
      have hye := gm (enc := encS) (n := (j : Int)) hy (by omega)
      have hmt := xGx x y
      rw [← xG4] at hmt
      have hem := xBn (xAV x y)
      repeat first|refine sgo ?_|refine cv0 hmt ?_|refine cv0 hem ?_|refine sop ?_
      refine cnd (fun h2 => ?_) (fun h2 => xAA ?_)
      · repeat first|refine sgo ?_|refine sop ?_
        have h2 : tch x y = true := h2
        have e : xBx a b = true := by
          unfold xBx
          exact List.any_eq_true.2 ⟨x, List.mem_of_getElem? hx, List.any_eq_true.2 ⟨y, List.mem_of_getElem? hy, h2⟩⟩
        rw [e]
        exact xAC ⟨.inr rfl, oAny rfl⟩
      · repeat first|refine sgo ?_|refine sop ?_
        have h2 : tch x y = false := h2
        refine agn (Q := fun _ _ => True) (j + 1) ⟨by omega, ?_⟩ xAS
        rw [List.take_add_one, hy, List.any_append, hw]
        simp [h2]
    · have hge : j = b.length := by have h' := of_decide_eq_false h; omega
      subst hge
      rw [List.take_length] at hw
      repeat first|refine sgo ?_|refine sop ?_
      refine agn (Q := fun _ _ => True) (i + 1) ⟨by omega, ?_⟩ xAS
      rw [List.take_add_one, hx, List.any_append, hv]
      simp [hw]
  · have hge : i = a.length := by have h' := of_decide_eq_false h; omega
    subst hge
    rw [List.take_length] at hv
    have e : xBx a b = false := hv
    rw [e]
    repeat first|refine sgo ?_|refine sop ?_
    exact xAC ⟨.inr rfl, oAny rfl⟩
set_option maxHeartbeats 1000000 in
theorem xMn {m : MsgL} (hm : MsgSz m) (s : SpanL) : VC Tryz.prog 39 [.agg (encM m), .agg (encS s)] [] (.bool (xCM m s)) [] := by
  have hr := xKg hm
  have hw := xFy hm
  have hrl := xDg m
  have hwl := xBh m
  have hfin : xCM m s = (xAw m).all (xA7 s) := rfl
  have hb : xA2 m ++ xAG m = xAw m := rfl
  have hbl : (xAw m).length ≤ 3 := by unfold xAw; rw [List.length_append]; omega
  rw [hfin]
  generalize xAG m = w at *
  generalize xA2 m = r at *
  generalize xAw m = l at *
  subst hb
  have hml : ((r ++ w).map encS).length = (r ++ w).length := List.length_map _
  refine vcs vf39 ?_
  repeat first|refine sgo ?_|refine cf hr ?_|refine o_v (vaps encS [] r) ?_|refine cf hw ?_|refine o_v (vaps encS r w) ?_|refine sop ?_
  refine xAE (fun (g : Nat) => [(3, .ptr ⟨1, 8⟩ 1 0 0), (5, ownV ⟨1, 8192⟩ ((r ++ w).map encS)), (6, .int .i64 g)]) (fun g => [(⟨1, 8⟩, ⟨true, false, 2, [encS s]⟩), (⟨1, 8192⟩, blkV 2 ((r ++ w).map encS))]) (fun g => (r ++ w).length - g)
    (fun g => g ≤ (r ++ w).length ∧ ((r ++ w).take g).all (xA7 s) = true) 0 xAS ⟨Nat.zero_le _, rfl⟩ ?_
  rintro i ⟨hi, hv⟩
  repeat first|refine sgo ?_|refine sop ?_
  refine cnd (fun h => xAA ?_) (fun h => xAD ?_)
  · have hlt : i < (r ++ w).length := by have h' := of_decide_eq_true h; omega
    obtain ⟨x, hx⟩ : ∃ m, (r ++ w)[i]? = some m := ⟨_, List.getElem?_eq_getElem hlt⟩
    have hxe : (blkV 2 ((r ++ w).map encS)).els[((i : Nat) : Int).toNat]? = some (encS x) := gm (enc := encS) (n := (i : Int)) hx (by omega)
    have hco := xN9 s x
    rw [← xOS] at hco
    repeat first|refine sgo ?_|refine cv0 hco ?_|refine sop ?_
    refine cnd (fun h2 => ?_) (fun h2 => xAA ?_)
    · have h2 : xA7 s x = false := by simpa using h2
      have e : (r ++ w).all (xA7 s) = false := by
        rw [List.all_eq_false]
        exact ⟨x, List.mem_of_getElem? hx, by rw [h2]; simp⟩
      rw [e]
      repeat first|refine sgo ?_|refine sop ?_
      exact xAC ⟨.inr rfl, oAny rfl⟩
    · have h2 : xA7 s x = true := by simpa using h2
      repeat first|refine sgo ?_|refine sop ?_
      refine agn (Q := fun _ _ => True) (i + 1) ⟨by omega, ?_⟩ xAS
      rw [List.take_add_one, hx, List.all_append, hv]
      simp [h2]
  · have hge : i = (r ++ w).length := by have h' := of_decide_eq_false h; omega
    subst hge
    rw [List.take_length] at hv
    rw [hv]
    repeat first|refine sgo ?_|refine sop ?_
    exact xAC ⟨.inr rfl, oAny rfl⟩
theorem xL0 {m : MsgL} (hm : MsgSz m) {q : PV} {pv : List Str} (hq : Sl q (pv.map encT)) (hl : pv.length ≤ 1000000) : VC Tryz.prog 21 [.agg (encM m), q] [] (.bool (xFF m pv)) [] := by
  have hsp := xMe hq hl
  have hmv := xPQ m
  have hc := hq.closed
  have hpl := xCV pv
  unfold xFF
  generalize xAK pv = d at *
  generalize xBA m = b at *
  have hml : (d.map encS).length = d.length := List.length_map _
  refine vcs vf21 ?_
  repeat first|refine sgo ?_|refine cv hsp ?_|refine cv0 hmv ?_|refine sop ?_
  refine xAE (fun (g : Nat) => [(2, .ptr ⟨1, 0⟩ 1 0 0), (5, ownV ⟨1, 8200⟩ (d.map encS)), (6, .bool (b && (d.take g).all fun s => !xCM m s)), (7, .int .i64 g)]) (fun g => [(⟨1, 0⟩, ⟨true, false, 8, [encM m]⟩), (⟨1, 8200⟩, blkV 2 (d.map encS))]) (fun g => d.length - g)
    (fun g => g ≤ d.length) 0 (xAS (h1 := by refine ⟨rfl, rfl, ?_, rfl, trivial⟩; exact congrArg (fun z => some (PV.bool z)) (show b = (b && (d.take 0).all fun s => !xCM m s) by simp))) (Nat.zero_le _) ?_
  intro i hi
  repeat first|refine sgo ?_|refine sop ?_
  refine cnd (fun h => xAA ?_) (fun h => xAD ?_)
  · have hlt : i < d.length := by have h' := of_decide_eq_true h; omega
    obtain ⟨x, hx⟩ : ∃ m, d[i]? = some m := ⟨_, List.getElem?_eq_getElem hlt⟩
    have hxe : (blkV 2 (d.map encS)).els[((i : Nat) : Int).toNat]? = some (encS x) := gm (enc := encS) (n := (i : Int)) hx (by omega)
    have hli := xMn hm x
    have e : (b && (d.take (i + 1)).all fun s => !xCM m s) = ((b && (d.take i).all fun s => !xCM m s) && !xCM m x) := by
      rw [List.take_add_one, hx, Option.toList_some, List.all_append, List.all_cons, List.all_nil, Bool.and_true, Bool.and_assoc]
    generalize (b && (d.take i).all fun s => !xCM m s) = c at *
    cases c
    · repeat first|refine sgo ?_|refine sop ?_
      refine agn (Q := fun _ _ => True) (i + 1) (by omega) (xAS (h1 := by refine ⟨rfl, rfl, ?_, rfl, trivial⟩; rw [e]; rfl))
    · repeat first|refine sgo ?_|refine cv0 hli ?_|refine sop ?_
      refine agn (Q := fun _ _ => True) (i + 1) (by omega) (xAS (h1 := by refine ⟨rfl, rfl, ?_, rfl, trivial⟩; rw [e]; rfl))
  · have hge : i = d.length := by have h' := of_decide_eq_false h; omega
    subst hge
    rw [List.take_length]
    repeat first|refine sgo ?_|refine sop ?_
    exact xAC ⟨.inr rfl, oAny rfl⟩
theorem rpart_vc {m : MsgL} (hm : MsgSz m) (s : SpanL) : VC Tryz.prog 24 [.agg (encM m), .agg (encS s)] [] (.sh false ((xIx m s).map encM)) [] := by
  have hw := xFy hm
  have hwl := xBh m
  have ht := xFV (q := .sh false ((xAG m).map encS)) (p := .sh false ([s].map encS)) (a := xAG m) (b := [s]) Sl.sh Sl.sh (by omega) (by simp)
  have hmt := xGx m.sp s
  rw [← xG4] at hmt
  refine xMX ?_
  unfold xIx
  generalize xBx (xAG m) [s] = t at ht ⊢
  cases t
  · rw [if_neg (by simp)]
    refine vcs vf24 ?_
    repeat first|refine sgo ?_|refine cf hw ?_|refine cv0 ht ?_|refine sop ?_
    refine cndt ?_
    repeat first|refine sgo ?_|refine sop ?_
    exact xAC ⟨.inr rfl, oOwn rfl⟩
  · rw [if_pos rfl]
    have hr3 : xAh m = (m.kind == 3 || m.kind == 6) := rfl
    cases h3 : (m.kind == 3) with
    | true =>
      rw [hr3, h3, Bool.true_or, if_pos rfl]
      refine vcs vf24 ?_
      repeat first|refine sgo ?_|refine cf hw ?_|refine cv0 ht ?_|refine sop ?_
      refine cndf (xAA ?_)
      repeat first|refine sgo ?_|refine sop ?_
      refine cndt ?_
      repeat first|refine sgo ?_|refine cv0 hmt ?_|refine sop ?_
      exact xAC ⟨.inr rfl, oOwn rfl⟩
    | false =>
      rw [hr3, h3, Bool.false_or]
      cases h6 : (m.kind == 6) with
      | true =>
        rw [if_pos rfl]
        refine vcs vf24 ?_
        repeat first|refine sgo ?_|refine cf hw ?_|refine cv0 ht ?_|refine sop ?_
        refine cndf (xAA ?_)
        repeat first|refine sgo ?_|refine sop ?_
        refine cndt ?_
        repeat first|refine sgo ?_|refine cv0 hmt ?_|refine sop ?_
        exact xAC ⟨.inr rfl, oOwn rfl⟩
      | false =>
        rw [if_neg (by simp)]
        refine vcs vf24 ?_
        repeat first|refine sgo ?_|refine cf hw ?_|refine cv0 ht ?_|refine sop ?_
        refine cndf (xAA ?_)
        repeat first|refine sgo ?_|refine sop ?_
        refine cndf (xAA ?_)
        repeat first|refine sgo ?_|refine sop ?_
        exact xAC ⟨.inr rfl, oOwn rfl⟩
end Go.Proofs
open Go.V Go.Pu
set_option linter.unusedVariables false
set_option linter.unusedSimpArgs false
set_option maxRecDepth 20000
namespace Go.Proofs
def vc17 := vcm Tryz.prog 17
theorem vf17 : VF Tryz.prog 17 = some (17, vc17, [.tmp 4]) := by kernel_rfl
def vc18 := vcm Tryz.prog 18
theorem vf18 : VF Tryz.prog 18 = some (19, vc18, [.cell true 3 6]) := by kernel_rfl
def vc22 : VCode :=
 (.seq
 (.region 0 false [
 .e 4 (.copy (.c (.bool false))) 0])
 (.seq
 (.seq
 (.region 1 false [
 .e 6 (.copy (.t 0)) 8192,
 .e 7 (.len (.t 6)) 8200,
 .e 8 (.copy (.t 1)) 8208,
 .e 9 (.len (.t 8)) 8216,
 .e 10 (.bin .neq (.t 7) (.t 9)) 8224])
 (.cond (.t 10)
 (.seq
 (.region 2 false [
 .e 4 (.copy (.c (.bool false))) 16384])
 .ret)
 .skip))
 (.seq
 (.seq
 (.region 3 false [
 .e 5 (.copy (.c (.int .i64 0))) 24576])
 (.block 0
 (.loop
 (.seq
 (.seq
 (.region 4 false [
 .e 11 (.copy (.t 5)) 32768,
 .e 12 (.copy (.t 0)) 32776,
 .e 13 (.len (.t 12)) 32784,
 .e 14 (.bin .lss (.t 11) (.t 13)) 32792])
 (.cond (.t 14)
 .skip
 (.exit 0)))
 (.seq
 (.block 1
 (.seq
 (.region 6 true [
 .e 17 (.copy (.t 0)) 49152,
 .e 18 (.copy (.t 5)) 49160,
 .f 19 (.iaddr 8 (.t 17) (.t 18)) 49168 [0, 1],
 .f 20 (.load true 8 (.t 19)) 49176 [2, 0, 1],
 .e 21 (.copy (.t 1)) 49184,
 .e 22 (.copy (.t 5)) 49192,
 .f 23 (.iaddr 8 (.t 21) (.t 22)) 49200 [4, 5],
 .f 24 (.load true 8 (.t 23)) 49208 [6, 4, 5],
 .f 25 (.eqc true [1, 2, 2, 2, 2, 2, 2, 1] (.t 20) (.t 24)) 49216 [3, 2, 0, 1, 7, 6, 4, 5]])
 (.cond (.t 25)
 (.seq
 (.region 7 false [
 .e 4 (.copy (.c (.bool false))) 57344])
 .ret)
 .skip)))
 (.region 5 false [
 .e 15 (.copy (.t 5)) 40960,
 .e 16 (.bin .add (.t 15) (.c (.int .i64 1))) 40968,
 .e 5 (.copy (.t 16)) 40976]))))))
 (.seq
 (.region 8 false [
 .e 4 (.copy (.c (.bool true))) 65536])
 .ret))))
theorem vf22 : VF Tryz.prog 22 = some (26, vc22, [.tmp 4]) := by kernel_rfl
theorem xN1 : run Tryz.prog xTF noX 400 30 11 [] [] = some (.bool true, []) := by kernel_rfl
theorem xEO : VC Tryz.prog 11 [] [] (.bool true) [] := xMj xMD xSE 30 _ _ _ _ _ xN1
theorem xUi {l : List RawM} (hl : l.length ≤ 9223372036854775807) (hr : ∀ r ∈ l, r.ok) (n : Nat) (hn : n ≤ 1000) : VC Tryz.prog 12 [.sh false (l.map encW), .int .i64 n] [] (.sh false ((xD5 l n).map encM)) [] := xEp (xUh hl hr n hn) (xAa rfl rfl)
theorem xMH {l : List RawM} {n : Nat} : ∀ m ∈ xD5 l n, MsgSz m := fun m hm => MsgSz.of (xJ1 m hm) (xG8 m hm)
theorem xNF (l : List RawM) (n : Nat) : (xD5 l n).length ≤ n := by unfold xD5; rw [List.length_map, List.length_take]; omega
theorem list_w {l : List RawM} {n : Nat} : ∀ m ∈ xD5 l n, MsgW m := by
  intro m hm
  obtain ⟨x, _, rfl⟩ := List.mem_map.1 hm
  exact xP6 x
theorem list_sp {l : List RawM} {n : Nat} : ∀ m ∈ xD5 l n, xAh m = true → xAJ m.sp = false := by
  intro m hm hr
  obtain ⟨x, _, rfl⟩ := List.mem_map.1 hm
  refine xFg x ?_
  simpa [xAh] using hr
theorem decW {q : List PV} (n : q.length = 6) (h : ∀ (j : Nat) (p : PV), j < 6 → q[j]? = some p → InTy (.int .u8) p) : ∃ r : RawM, q = encW r ∧ r.ok := by
  obtain ⟨a, b, c, d, e, f, rfl⟩ := list6 n
  obtain ⟨a, rfl, h1⟩ := xIm (h 0 _ (by omega) rfl)
  obtain ⟨b, rfl, h2⟩ := xIm (h 1 _ (by omega) rfl)
  obtain ⟨c, rfl, h3⟩ := xIm (h 2 _ (by omega) rfl)
  obtain ⟨d, rfl, h4⟩ := xIm (h 3 _ (by omega) rfl)
  obtain ⟨e, rfl, h5⟩ := xIm (h 4 _ (by omega) rfl)
  obtain ⟨f, rfl, h6⟩ := xIm (h 5 _ (by omega) rfl)
  exact ⟨⟨a, b, c, d, e, f⟩, rfl, h1, h2, h3, h4, h5, h6⟩
theorem xNi {j : Nat} (h : j < 6) : [CTy.int .u8, .int .u8, .int .u8, .int .u8, .int .u8, .int .u8][j]? = some (.int .u8) := by
  match j, h with
  | 0, _ => rfl
  | 1, _ => rfl
  | 2, _ => rfl
  | 3, _ => rfl
  | 4, _ => rfl
  | 5, _ => rfl
theorem xU4 {l : List (List PV)} (h : InTy (.sl [.int .u8, .int .u8, .int .u8, .int .u8, .int .u8, .int .u8]) (.sh false l)) : ∃ rs : List RawM, l = rs.map encW ∧ (∀ r ∈ rs, r.ok) ∧ rs.length ≤ 9223372036854775807 := by
  obtain ⟨xs, h1, h2⟩ := xIO (enc := fun (a : { r : RawM // r.ok }) => encW a.1) h fun e hl hc => by
    obtain ⟨r, rfl, hr⟩ := decW hl fun j p hj hp => hc j _ _ (xNi hj) hp
    exact ⟨⟨r, hr⟩, rfl⟩
  refine ⟨xs.map (·.1), by rw [h1, List.map_map]; rfl, fun r hr => ?_, by simpa [maxLen] using h2⟩
  obtain ⟨a, _, rfl⟩ := List.mem_map.1 hr
  exact a.2
theorem decW1 {q : List PV} (n : q.length = [CTy.int .u8, .int .u8, .int .u8, .int .u8, .int .u8, .int .u8].length) (i : ∀ (j : Nat) (c : CTy) (p : PV), [CTy.int .u8, .int .u8, .int .u8, .int .u8, .int .u8, .int .u8][j]? = some c → q[j]? = some p → InTy c p) : ∃ r : RawM, q = encW r ∧ r.ok :=
  decW n fun j p hj hp => i j _ p (xNi hj) hp
abbrev encU (n : Nat) : List PV := [.int .u8 n]
theorem xSj {l : List (List PV)} (h : InTy (.sl [.int .u8]) (.sh false l)) : ∃ xs : List Nat, l = xs.map encU ∧ (∀ n ∈ xs, n < 256) ∧ xs.length ≤ 9223372036854775807 := by
  obtain ⟨xs, h1, h2⟩ := xIO (enc := fun (a : { n : Nat // n < 256 }) => encU a.1) h fun e hl hc => by
    obtain ⟨a, rfl⟩ := list1 hl
    obtain ⟨n, rfl, hn⟩ := xIm (hc 0 _ _ rfl rfl)
    exact ⟨⟨n, hn⟩, rfl⟩
  refine ⟨xs.map (·.1), by rw [h1, List.map_map]; rfl, fun r hr => ?_, by simpa [maxLen] using h2⟩
  obtain ⟨a, _, rfl⟩ := List.mem_map.1 hr
  exact a.2
def xER (n : Nat) : Str := if n % 2 = 0 then xA5 (n / 2) else keyM (n / 2)
def pvM (l : List Nat) : List Str := pivL ((l.take 4).map xER)
theorem xPX (l : List Nat) : Asc (pvM l) := xRy _
theorem xJl (l : List Nat) : (pvM l).length ≤ 4 := by
  have := xRx ((l.take 4).map xER)
  rw [List.length_map, List.length_take] at this
  unfold pvM; omega
theorem xPc {l : List Nat} (hl : l.length ≤ 9223372036854775807) (hu : ∀ n ∈ l, n < 256) : VC Tryz.prog 13 [.sh false (l.map encU)] [] (ownV ⟨0, 0⟩ ((pvM l).map encT)) [blkV 1 ((pvM l).map encT)] := by
  have hml : (l.map encU).length = l.length := List.length_map _
  refine vcs vf13 ?_
  repeat first|refine sgo ?_|refine sop ?_
  refine xAE (fun (i : Nat) => [(0, .sh false (l.map encU)), (3, ownV ⟨1, 8192⟩ (((l.take i).map xER).map encT)), (4, .int .i64 i)]) (fun i => [(⟨1, 8192⟩, blkV 1 (((l.take i).map xER).map encT))]) (fun i => l.length - i)
    (fun i => i ≤ l.length ∧ i ≤ 4) 0 xAS ⟨Nat.zero_le _, Nat.zero_le _⟩ ?_
  rintro i ⟨hi, hin⟩
  by_cases hA : i < l.length
  · have g1 : decide ((i : Int) < (l.map encU).length) = true := by rw [hml]; simp; omega
    obtain ⟨n, hx⟩ : ∃ y, l[i]? = some y := ⟨_, List.getElem?_eq_getElem hA⟩
    have hxe := gm (enc := encU) (n := (i : Int)) hx (by omega)
    have hlt2 : (i : Int) < ((l.map encU).length : Nat) := by rw [hml]; omega
    have hn := hu n (List.mem_of_getElem? hx)
    have htk : (l.take (i + 1)).map xER = (l.take i).map xER ++ [xER n] := by rw [List.take_add_one, hx]; simp
    by_cases hB : i < 4
    · have g2 : decide ((i : Int) < 4) = true := by simp; omega
      have hlen : ((l.take i).map xER).length ≤ 1000 := by rw [List.length_map, List.length_take]; omega
      have h1 : Int.tmod (n : Int) 2 = ((n % 2 : Nat) : Int) := tm n 2
      have hq : bin .quo (.int .u8 (n : Int)) (.int .u8 2) = some (.int .u8 ((n / 2 : Nat) : Int)) := quoN (k := .u8) (n := n) (m := 2) rfl (by omega) (wrap8 (by omega))
      have hp := xJo (n / 2)
      have hk := xJ5 (n := n / 2) (by omega)
      by_cases h0 : n % 2 = 0
      · have e : xER n = xA5 (n / 2) := if_pos h0
        have g3 : (((n % 2 : Nat) : Int) == 0) = true := by rw [h0]; rfl
        rw [e] at htk
        repeat first|refine sgo ?_|refine xCW ?_|refine sop ?_
        refine cndt (xAA ?_)
        repeat first|refine sgo ?_|refine xCW ?_|refine sop ?_
        refine cndt ?_
        repeat first|refine sgo ?_|refine xBe hq ?_|refine cv0 hp ?_|refine o_v (vap encT (xA5 (n / 2))) ?_|refine sop ?_
        refine agn (Q := fun _ _ => True) (i + 1) ⟨by omega, by omega⟩ ?_
        rw [htk]
        exact xAS
      · have e : xER n = keyM (n / 2) := if_neg h0
        have g3 : (((n % 2 : Nat) : Int) == 0) = false := by rw [beq_eq_false_iff_ne]; omega
        rw [e] at htk
        repeat first|refine sgo ?_|refine xCW ?_|refine sop ?_
        refine cndt (xAA ?_)
        repeat first|refine sgo ?_|refine xCW ?_|refine sop ?_
        refine cndf ?_
        repeat first|refine sgo ?_|refine xBe hq ?_|refine cv0 hk ?_|refine o_v (vap encT (keyM (n / 2))) ?_|refine sop ?_
        refine agn (Q := fun _ _ => True) (i + 1) ⟨by omega, by omega⟩ ?_
        rw [htk]
        exact xAS
    · have g2 : decide ((i : Int) < 4) = false := by simp; omega
      have hp := xKt (q := .sh false (((l.take i).map xER).map encT)) (l := (l.take i).map xER) Sl.sh (by rw [List.length_map, List.length_take]; omega)
      have he : pivL ((l.take i).map xER) = pvM l := by rw [pvM, show i = 4 by omega]
      rw [he] at hp
      repeat first|refine sgo ?_|refine sop ?_
      refine cndf (xAD ?_)
      repeat first|refine sgo ?_|refine cv hp ?_|refine sop ?_
      exact xAC ⟨.inr rfl, oOwn rfl⟩
  · have g1 : decide ((i : Int) < (l.map encU).length) = false := by rw [hml]; simp; omega
    have hp := xKt (q := .sh false (((l.take i).map xER).map encT)) (l := (l.take i).map xER) Sl.sh (by rw [List.length_map, List.length_take]; omega)
    have he : pivL ((l.take i).map xER) = pvM l := by rw [pvM, List.take_of_length_le (by omega), List.take_of_length_le (by omega)]
    rw [he] at hp
    repeat first|refine sgo ?_|refine sop ?_
    refine cndf (xAD ?_)
    repeat first|refine sgo ?_|refine cv hp ?_|refine sop ?_
    exact xAC ⟨.inr rfl, oOwn rfl⟩
theorem xG1 {l : List Nat} (hl : l.length ≤ 9223372036854775807) (hu : ∀ n ∈ l, n < 256) : VC Tryz.prog 13 [.sh false (l.map encU)] [] (.sh false ((pvM l).map encT)) [] := xEp (xPc hl hu) (xAa rfl rfl)
theorem xEX {q : PV} {pv : List Str} (hq : Sl q (pv.map encT)) (hpl : pv.length ≤ 1000000) {buf : List MsgL} (hb : buf.length ≤ 900) (hm : ∀ m ∈ buf, MsgSz m) {i0 : Nat} {s : SpanL} (hs : (xAK pv)[i0]? = some s) :
    VC Tryz.prog 18 [.sh false (buf.map encM), q, .int .i64 i0] [] (.agg [.sh false ((xAf buf s).go.map encM), .sh false ((xAf buf s).stay.map encM), .nils]) [] := by
  have h := xRn hq hpl (by omega) hm hs
  have hc := hq.closed
  refine vcs vf18 ?_
  repeat first|refine sgo ?_|refine cf h ?_|refine sop ?_
  exact xAC ⟨.inr rfl, oAny rfl⟩
theorem veqM (a b : MsgL) {neg : Bool} {lvl site : Nat} {tf : TF} {hf : HF} {x y : VX} (hx : ev tf x = some (.agg (encM a)) := by rfl) (hy : ev tf y = some (.agg (encM b)) := by rfl) :
    vop lvl site tf hf (.eqc neg [1, 2, 2, 2, 2, 2, 2, 1] x y) = some ⟨.bool (if neg then !decide (a = b) else decide (a = b)), [], []⟩ := by
  obtain ⟨a1, a2, a3, ⟨a4, a5⟩, a6, a7, a8⟩ := a
  obtain ⟨b1, b2, b3, ⟨b4, b5⟩, b6, b7, b8⟩ := b
  have h : (a1 == b1 && (a2 == b2 && (a3 == b3 && (a4 == b4 && (a5 == b5 && (a6 == b6 && (a7 == b7 && a8 == b8))))))) = decide ((⟨a1, a2, a3, ⟨a4, a5⟩, a6, a7, a8⟩ : MsgL) = ⟨b1, b2, b3, ⟨b4, b5⟩, b6, b7, b8⟩) := by
    rw [Bool.eq_iff_iff]
    simp [and_assoc]
  rw [← h]
  simp [vop, hx, hy, xAz, xCE, retV]
theorem vneM (a : MsgL) {lvl site : Nat} {tf : TF} {hf : HF} {x y : VX} (hx : ev tf x = some (.agg (encM a)) := by rfl) (hy : ev tf y = some (.agg (encM a)) := by rfl) :
    vop lvl site tf hf (.eqc true [1, 2, 2, 2, 2, 2, 2, 1] x y) = some ⟨.bool false, [], []⟩ := by
  have h := veqM a a (neg := true) (lvl := lvl) (site := site) (hf := hf) hx hy
  rw [h]
  simp
theorem xJg {a : List MsgL} (ha : a.length ≤ 60000) : VC Tryz.prog 22 [.sh false (a.map encM), .sh false (a.map encM)] [] (.bool true) [] := by
  have hml : (a.map encM).length = a.length := List.length_map _
  refine vcs vf22 ?_
  repeat first|refine sgo ?_|refine sop ?_
  refine cnd (fun h => ?_) (fun h => xAA ?_)
  · simp at h
  repeat first|refine sgo ?_|refine sop ?_
  refine xAE (fun (g : Nat) => [(0, .sh false (a.map encM)), (1, .sh false (a.map encM)), (5, .int .i64 g)]) (fun g => []) (fun g => a.length - g)
    (fun g => g ≤ a.length) 0 xAS (Nat.zero_le _) ?_
  intro i hi
  repeat first|refine sgo ?_|refine sop ?_
  refine cnd (fun h => xAA ?_) (fun h => xAD ?_)
  · have hlt : i < a.length := by have h' := of_decide_eq_true h; omega
    obtain ⟨x, hx⟩ : ∃ x, a[i]? = some x := ⟨_, List.getElem?_eq_getElem hlt⟩
    have hxe := gm (enc := encM) (n := (i : Int)) hx (by omega)
    repeat first|refine sgo ?_|refine o_v (vneM x) ?_|refine sop ?_
    refine cndf (xAA ?_)
    repeat first|refine sgo ?_|refine sop ?_
    exact agn (Q := fun _ _ => True) (i + 1) (by omega) xAS
  · repeat first|refine sgo ?_|refine sop ?_
    exact xAC ⟨.inr rfl, oAny rfl⟩
theorem sameW_vc {a b : List MsgL} {d : List SpanL} (ha : a.length ≤ 60000) (hb : b.length ≤ 60000) : VC Tryz.prog 17 [.agg [.sh false (a.map encM), .sh false (b.map encM), .nils], .agg [.sh false (a.map encM), .sh false (b.map encM), .sh false (d.map encS)]] [] (.bool true) [] := by
  have h1 := xJg ha
  have h2 := xJg hb
  refine vcs vf17 ?_
  repeat first|refine sgo ?_|refine cv0 h1 ?_|refine cv0 h2 ?_|refine sop ?_
  exact xAC ⟨.inr rfl, oAny rfl⟩
end Go.Proofs
