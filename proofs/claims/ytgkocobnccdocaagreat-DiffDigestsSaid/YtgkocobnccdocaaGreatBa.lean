/- Ba -/
import Derived.Test.YtgkocobnccdocaaGreatMa
import Derived.Test.YtgkocobnccdocaaGreatPu
import Derived.Test.YtgkocobnccdocaaGreatVD
import Derived.Test.YtgkocobnccdocaaGreatFa
import Derived.Test.YtgkocobnccdocaaGreatTb
open Go.V Go.Pu
set_option linter.unusedVariables false
set_option linter.unusedSimpArgs false
set_option maxRecDepth 20000
namespace Go.Proofs
def vc41 := vcm Tryz.prog 41
theorem vf41 : VF Tryz.prog 41 = some (18, vc41, [.tmp 4]) := by kernel_rfl
def vc42 := vcm Tryz.prog 42
theorem vf42 : VF Tryz.prog 42 = some (10, vc42, [.tmp 4]) := by kernel_rfl
def vc78 := vcm Tryz.prog 78
theorem vf78 : VF Tryz.prog 78 = some (19, vc78, [.cell true 5 4, .tmp 5]) := by kernel_rfl
def vc98 := vcm Tryz.prog 98
theorem vf98 : VF Tryz.prog 98 = some (19, vc98, [.tmp 4]) := by kernel_rfl
def vc99 := vcm Tryz.prog 99
theorem vf99 : VF Tryz.prog 99 = some (8, vc99, [.tmp 3]) := by kernel_rfl
structure ForL where
  pc : List (List PV)
  a : Int
  b : Int
  c : Int
  eps : List EpL
  nx : Int
  rt : Int
  par : Int
  ms : List MsgL
abbrev encE (e : EpL) : List PV := [.int .i64 e.id, .int .i64 e.par, .int .i64 e.root, .str e.name, .sh false (e.ms.map encM)]
def zEp : EpL := ⟨0, 0, 0, [], []⟩
abbrev xGK (f : ForL) : List PV := [.sh false f.pc, .int .i64 f.a, .int .i64 f.b, .int .i64 f.c, .sh false (f.eps.map encE), .int .i64 f.nx, .int .i64 f.rt, .int .i64 f.par, .sh false (f.ms.map encM)]
abbrev xTZ (o : Option EpL) : List PV := encE (o.getD zEp)
theorem xVs (e : EpL) (id : Int) : VC Tryz.prog 99 [.agg (encE e), .ptr ⟨0, 0⟩ 1 0 0] [⟨true, false, 1, [[.int .i64 id]]⟩] (.bool (e.id == id)) [⟨true, false, 1, [[.int .i64 id]]⟩] := by
  refine vcs vf99 ?_
  repeat first|refine sgo ?_|refine sop ?_
  refine xAC ⟨.inr rfl, ?_⟩
  exact oG []
theorem xV3 {E : List EpL} {id : Int} (hl : E.length ≤ 1000) : VC Tryz.prog 98 [.sh false (E.map encE), .fn 99 [.ptr ⟨0, 0⟩ 1 0 0]] [⟨true, false, 1, [[.int .i64 id]]⟩] (.int .i64 (idxI E id)) [⟨true, false, 1, [[.int .i64 id]]⟩] := by
  have hml : (E.map encE).length = E.length := List.length_map _
  refine vcs vf98 ?_
  repeat first|refine sgo ?_|refine sop ?_
  refine xAE (fun (g : Nat) => [(0, .sh false (E.map encE)), (1, .fn 99 [.ptr ⟨0, 0⟩ 1 0 0]), (7, .int .i64 (E.map encE).length), (8, .int .i64 g)]) (fun g => [(⟨0, 0⟩, ⟨true, false, 1, [[.int .i64 id]]⟩)]) (fun g => E.length - g)
    (fun g => g ≤ E.length ∧ (E.take g).any (fun e => e.id == id) = false) 0 xAi ⟨Nat.zero_le _, rfl⟩ ?_
  rintro i ⟨hi, hv⟩
  (try dsimp only)
  repeat first|refine sgo ?_|refine sop ?_
  refine cnd (fun h => xAB ?_) (fun h => xAD ?_)
  · have hlt : i < E.length := by have h' := of_decide_eq_true h; omega
    obtain ⟨x, hx⟩ : ∃ x, E[i]? = some x := ⟨_, List.getElem?_eq_getElem hlt⟩
    have hxe := gm (enc := encE) (n := (i : Int)) hx (by omega)
    have hlt2 : (i : Int) < ((E.map encE).length : Nat) := by omega
    have hi := xVs x id
    repeat first|refine sgo ?_|refine cl (lent := [⟨0, 0⟩]) hi ?_|refine sop ?_
    refine cnd (fun h2 => ?_) (fun h2 => xAB ?_)
    · repeat first|refine sgo ?_|refine sop ?_
      have hxs : E = E.take i ++ x :: E.drop (i + 1) := by rw [← xAo hx, List.take_append_drop]
      have ha : E.any (fun e => e.id == id) = true := by rw [hxs]; simp only [List.any_append, List.any_cons, h2]; simp
      have e : idxI E id = (i : Int) := by
        unfold idxI
        rw [if_pos ha]
        have : E.findIdx (fun e => e.id == id) = i := by
          rw [hxs, List.findIdx_append, if_neg]
          · simp only [List.findIdx_cons, h2, cond_true]; simp; omega
          · intro h4
            have := List.findIdx_getElem (w := h4)
            have h5 := List.any_eq_false.1 hv _ (List.getElem_mem h4)
            exact h5 this
        rw [this]
      rw [e]
      refine xAC ⟨.inr rfl, ?_⟩
      exact oG []
    · repeat first|refine sgo ?_|refine sop ?_
      refine agn (Q := fun _ _ => True) (i + 1) ⟨by omega, ?_⟩ xAi
      rw [List.take_add_one, hx, List.any_append, hv]
      simp only [Option.toList_some, List.any_cons, h2, List.any_nil]
      rfl
  · have hge : i = E.length := by have h' := of_decide_eq_false h; omega
    subst hge
    rw [List.take_length] at hv
    repeat first|refine sgo ?_|refine sop ?_
    have e : idxI E id = -1 := by unfold idxI; rw [if_neg (by rw [hv]; simp)]
    rw [e]
    refine xAC ⟨.inr rfl, ?_⟩
    exact oG []
theorem xFn {f : ForL} {id : Int} (hl : f.eps.length ≤ 1000) : VC Tryz.prog 78 [.agg (xGK f), .int .i64 id] [] (.tup [.agg (xTZ (xGq f.eps id)), .bool (xGq f.eps id).isSome]) [] := by
  have h := xV3 (E := f.eps) (id := id) hl
  have hml : (f.eps.map encE).length = f.eps.length := List.length_map _
  cases hf : xGq f.eps id with
  | none =>
    rw [xTT hf] at h
    refine xCQ (v := .tup [.agg [.int .i64 0, .int .i64 0, .int .i64 0, .str [], .nils], .bool false]) ?_ xEz (PLe.tup (.cons (ALe.agg (.cons (SLe.refl _) (.cons (SLe.refl _) (.cons (SLe.refl _) (.cons (SLe.refl _) (.cons (CLe.nils.s rfl) .nil)))))) (.cons (ALe.refl _) .nil)))
    refine xBV vf78 ?_ (Nat.le_of_ble_eq_true rfl) (by intro vs h; cases h; simp)
    repeat first|refine sgo ?_|refine cl (lent := [⟨1, 8⟩]) h ?_|refine sop ?_
    refine cndt ?_
    repeat first|refine sgo ?_|refine sop ?_
    exact xAC ⟨.inr rfl, oAny rfl⟩
  | some e =>
    obtain ⟨i, hi, hx⟩ := Go.Pu.idx_some hf
    rw [hi] at h
    have hlt : i < f.eps.length := (List.getElem?_eq_some_iff.1 hx).1
    have hxe := gm (enc := encE) (n := (i : Int)) hx (by omega)
    have hlt2 : (i : Int) < ((f.eps.map encE).length : Nat) := by omega
    have hg : decide ((i : Int) < 0) = false := decide_eq_false (by omega)
    refine xBV vf78 ?_ (Nat.le_of_ble_eq_true rfl) (by intro vs h; cases h; simp)
    repeat first|refine sgo ?_|refine cl (lent := [⟨1, 8⟩]) h ?_|refine sop ?_
    refine cndf (xAB ?_)
    repeat first|refine sgo ?_|refine sop ?_
    exact xAC ⟨.inr rfl, oAny rfl⟩
theorem xHP {f : ForL} {id : Int} (hl : f.eps.length ≤ 1000) : VC Tryz.prog 41 [.agg (xGK f), .int .i64 id] [] (.bool (xFL f.eps id)) [] := by
  have h := xFn (f := f) (id := id) hl
  unfold xFL
  cases hf : xGq f.eps id with
  | some e =>
    rw [hf] at h
    refine vcs vf41 ?_
    repeat first|refine sgo ?_|refine cf h ?_|refine sop ?_
    exact xAC ⟨.inr rfl, oB rfl⟩
  | none =>
    rw [hf] at h
    refine vcs vf41 ?_
    repeat first|refine sgo ?_|refine cf h ?_|refine sop ?_
    exact xAC ⟨.inr rfl, oB rfl⟩
theorem xMq {f : ForL} {id : Int} : VC Tryz.prog 42 [.agg (xGK f), .int .i64 id] [] (.fn 79 [.ptr ⟨0, 0⟩ 1 0 0, .ptr ⟨0, 1⟩ 1 0 0]) [⟨true, false, 9, [xGK f]⟩, ⟨true, false, 1, [[.int .i64 (if id = 0 then f.par else id)]]⟩] := by
  by_cases h : id = 0
  · have hg : (id == 0) = true := by simp [h]
    rw [if_pos h]
    refine vcs vf42 ?_
    repeat first|refine sgo ?_|refine sop ?_
    refine cndt ?_
    repeat first|refine sgo ?_|refine sop ?_
    refine xAC ⟨.inr rfl, ?_⟩
    exact oG [⟨1, 0⟩, ⟨1, 8⟩] (v' := .fn 79 [.ptr ⟨0, 0⟩ 1 0 0, .ptr ⟨0, 1⟩ 1 0 0]) (hout' := [⟨true, false, 9, [xGK f]⟩, ⟨true, false, 1, [[.int .i64 f.par]]⟩])
  · have hg : (id == 0) = false := by simp [h]
    rw [if_neg h]
    refine vcs vf42 ?_
    repeat first|refine sgo ?_|refine sop ?_
    refine cndf (xAB ?_)
    repeat first|refine sgo ?_|refine sop ?_
    refine xAC ⟨.inr rfl, ?_⟩
    exact oG [⟨1, 0⟩, ⟨1, 8⟩] (v' := .fn 79 [.ptr ⟨0, 0⟩ 1 0 0, .ptr ⟨0, 1⟩ 1 0 0]) (hout' := [⟨true, false, 9, [xGK f]⟩, ⟨true, false, 1, [[.int .i64 id]]⟩])
end Go.Proofs
open Go.V Go.Pu
set_option linter.unusedVariables false
set_option linter.unusedSimpArgs false
set_option maxRecDepth 20000
namespace Go.Proofs
def vc13 := vcm Tryz.prog 13
theorem vf13 : VF Tryz.prog 13 = some (50, vc13, [.tmp 6, .tmp 7]) := by kernel_rfl
def vc43 := vcm Tryz.prog 43
theorem vf43 : VF Tryz.prog 43 = some (28, vc43, []) := by kernel_rfl
def vc79 := vcm Tryz.prog 79
theorem vf79 : VF Tryz.prog 79 = some (25, vc79, []) := by kernel_rfl
set_option maxHeartbeats 2000000 in
theorem xSY {xs : List (List MsgL)} {N : Nat} (hN : N = xs.length) (hl : xs.length ≤ 60000) : VC Tryz.prog 43 [.own ⟨0, 0⟩ N 0 N] [blkV 1 (xs.map xC0)] (.tup []) [blkV 1 (xs.reverse.map xC0)] := by
  refine xBV vf43 ?_ (Nat.le_of_ble_eq_true rfl) (by intro vs h; cases h; simp)
  repeat first|refine sgo ?_|refine sop ?_
  refine xAE (fun (g : Nat × List (List MsgL)) => [(0, .own ⟨0, 0⟩ N 0 N), (2, .int .i64 g.1), (3, .int .i64 ((N : Int) - 1 - (g.1 : Int)))])
    (fun g => [(⟨0, 0⟩, blkV 1 (g.2.map xC0))]) (fun g => xs.length - g.1) (fun g => 2 * g.1 ≤ xs.length + 1 ∧ RevP xs g.2 g.1) (0, xs)
    (goes (h1 := by refine ⟨rfl, rfl, ?_, trivial⟩; exact congrArg (fun z => some (PV.int .i64 z)) (by simp))) ⟨by simp only; omega, rfl, fun k => ?_⟩ ?_
  · simp only [Nat.not_lt_zero, Nat.add_zero, false_or]
    split
    · rename_i hk
      rw [List.getElem?_eq_none (by omega), List.getElem?_eq_none (by simp; omega)]
    · rfl
  rintro ⟨i, ys⟩ ⟨hi, hr⟩
  dsimp only at hi hr ⊢
  have hyl := hr.1
  by_cases hA : 2 * i + 1 < xs.length
  · have hd : decide ((i : Int) < (N : Int) - 1 - (i : Int)) = true := decide_eq_true (by omega)
    obtain ⟨x, hx⟩ : ∃ x, ys[i]? = some x := ⟨_, List.getElem?_eq_getElem (by omega)⟩
    obtain ⟨y, hy⟩ : ∃ y, ys[xs.length - 1 - i]? = some y := ⟨_, List.getElem?_eq_getElem (by omega)⟩
    have hx' := xKn (enc := xC0) (n := 1) (k := 0 + (i : Int).toNat) hx (by omega)
    have hy' := xKn (enc := xC0) (n := 1) (k := 0 + ((N : Int) - 1 - (i : Int)).toNat) hy (by omega)
    have hk1 : 0 + (i : Int).toNat = i := by omega
    have hk2 : 0 + ((N : Int) - 1 - (i : Int)).toNat = xs.length - 1 - i := by omega
    have hst := xNS hr hA hx hy
    repeat first|refine sgo ?_|refine sop ?_
    refine cndt (xAB ?_)
    refine xAb (xA0 (rg ?_))
    repeat first|refine xAP ?_|refine xAJ ?_|refine o_v (vst xC0 y) ?_|refine o_v (vst xC0 x) ?_|refine sop ?_
    refine nl ?_
    rw [hk1, hk2]
    generalize (ys.set i y).set (xs.length - 1 - i) x = zs at hst
    repeat first|refine sgo ?_|refine sop ?_
    exact agn (Q := fun _ _ => True) (i + 1, zs) ⟨by simp only; omega, hst⟩ (xAi (h1 := by refine ⟨rfl, rfl, ?_, trivial⟩; exact congrArg (fun z => some (PV.int .i64 z)) (by simp only; omega)))
  · have hd : decide ((i : Int) < (N : Int) - 1 - (i : Int)) = false := decide_eq_false (by omega)
    have := xNT hr (by omega)
    subst this
    repeat first|refine sgo ?_|refine sop ?_
    refine cndf (xAD ?_)
    exact ⟨.inl rfl, oL1 rfl⟩
abbrev BT0 : Tmps := [(4, .ptr ⟨0, 1000⟩ 1 0 0), (8, .ptr ⟨0, 1001⟩ 1 0 0), (9, .ptr ⟨0, 1002⟩ 1 0 0), (32, .fn 79 [.ptr ⟨0, 1003⟩ 1 0 0, .ptr ⟨0, 1004⟩ 1 0 0])]
abbrev BH (f : ForL) (a i : Int) (l : List (List MsgL)) (fd : Bool) : Heap := [(⟨0, 1000⟩, ⟨true, false, 1, [[.int .i64 a]]⟩), (⟨0, 1001⟩, ⟨true, false, 1, [[ownV ⟨1, 40992⟩ (l.map xC0)]]⟩), (⟨1, 40992⟩, blkV 1 (l.map xC0)), (⟨0, 1002⟩, ⟨true, false, 1, [[.bool fd]]⟩), (⟨0, 1003⟩, ⟨true, false, 9, [xGK f]⟩), (⟨0, 1004⟩, ⟨true, false, 1, [[.int .i64 i]]⟩)]
set_option maxHeartbeats 8000000 in
theorem xPB {f : ForL} {a b : Int} {L : List EpL} (hE : f.eps.length ≤ 1000) (hL : xGV f.eps (if b = 0 then f.par else b) L) (hl : L.length ≤ 1000)
    (ht : (((if b = 0 then [f.ms] else []) ++ colL a L).reverse.flatten).length ≤ 6200) (hm : ∀ m ∈ ((if b = 0 then [f.ms] else []) ++ colL a L).reverse.flatten, MsgSz m) :
    VC Tryz.prog 13 [.agg (xGK f), .int .i64 a, .int .i64 b] [] (.tup [.sh false ((xGS f.eps f.ms a b L).1.map encM), .int .i64 (xGS f.eps f.ms a b L).2]) [] := by
  have s1 := xHP (f := f) (id := a) hE
  have s2 := xHP (f := f) (id := b) hE
  unfold xGS
  cases ha : xFL f.eps a with
  | false =>
    rw [ha] at s1
    refine xCQ (v := .tup [.nils, .int .i64 160]) ?_ xEz (PLe.tup (.cons ((CLe.nils.s rfl).a rfl) (.cons (ALe.refl _) .nil)))
    refine xBV vf13 ?_ (Nat.le_of_ble_eq_true rfl) (by intro vs h; cases h; simp)
    repeat first|refine sgo ?_|refine cv0 s1 ?_|refine sop ?_
    refine cndt ?_
    repeat first|refine sgo ?_|refine sop ?_
    exact xAC ⟨.inr rfl, oAny rfl⟩
  | true =>
  cases hb : xFL f.eps b with
  | false =>
    rw [ha] at s1
    rw [hb] at s2
    refine xCQ (v := .tup [.nils, .int .i64 160]) ?_ xEz (PLe.tup (.cons ((CLe.nils.s rfl).a rfl) (.cons (ALe.refl _) .nil)))
    refine xBV vf13 ?_ (Nat.le_of_ble_eq_true rfl) (by intro vs h; cases h; simp)
    repeat first|refine sgo ?_|refine cv0 s1 ?_|refine cv0 s2 ?_|refine sop ?_
    refine cndt ?_
    repeat first|refine sgo ?_|refine sop ?_
    exact xAC ⟨.inr rfl, oAny rfl⟩
  | true =>
  rw [ha] at s1
  rw [hb] at s2
  rw [if_neg (by simp)]
  obtain ⟨l0, hl0⟩ : ∃ l0, l0 = (if b = 0 then [f.ms] else []) := ⟨_, rfl⟩
  rw [← hl0] at ht hm ⊢
  have hl0n : l0.length ≤ 1 := by rw [hl0]; split <;> simp
  obtain ⟨i, hi⟩ : ∃ i, i = (if b = 0 then f.par else b) := ⟨_, rfl⟩
  have hli := xMq (f := f) (id := b)
  rw [← hi] at hL hli
  have hcl := xRd a L
  obtain ⟨res, hres⟩ : ∃ res, res = l0 ++ colL a L := ⟨_, rfl⟩
  rw [← hres] at ht hm ⊢
  have hrl : res.length ≤ 1001 := by rw [hres, List.length_append]; omega
  refine xBV vf13 ?_ (Nat.le_of_ble_eq_true rfl) (by intro vs h; cases h; simp)
  repeat first|refine sgo ?_|refine cv0 s1 ?_|refine cv0 s2 ?_|refine sop ?_
  refine cndf (xAB ?_)
  refine xAb (rg ?_)
  repeat first|refine xAP ?_|refine sop ?_
  refine nl ?_
  refine xCC (lvl := 1) (fun _ => [(2, .int .i64 b), (3, .ptr ⟨1, 0⟩ 1 0 0), (4, .ptr ⟨1, 8⟩ 1 0 0), (8, .ptr ⟨1, 24576⟩ 1 0 0)])
    (fun (_ : Unit) => [(⟨1, 0⟩, ⟨true, false, 9, [xGK f]⟩), (⟨1, 8⟩, ⟨true, false, 1, [[.int .i64 a]]⟩), (⟨1, 24576⟩, ⟨true, false, 1, [[ownV ⟨1, 40992⟩ (l0.map xC0)]]⟩), (⟨1, 40992⟩, blkV 1 (l0.map xC0))]) (fun _ => True) ?_ ?_
  · repeat first|refine sgo ?_|refine sop ?_
    by_cases h0 : b = 0
    · have hg : (b == 0) = true := by simp [h0]
      rw [if_pos h0] at hl0
      subst hl0
      refine cndt ?_
      repeat first|refine sgo ?_|refine o_v (vapN xC0 f.ms) ?_|refine sop ?_
      exact mid0 () trivial xAi
    · have hg : (b == 0) = false := by simp [h0]
      rw [if_neg h0] at hl0
      subst hl0
      refine cndf (xAB ?_)
      exact mid0 () trivial ((Imp.nilH (b := ⟨1, 40992⟩) (b1 := ⟨1, 24576⟩) (esz := 1) rfl rfl (by decide)).trans xAi)
  · intro _ _
    refine xAb (rg ?_)
    repeat first|refine xAP ?_|refine sop ?_
    refine nl ?_
    refine xCC (lvl := 1) (fun _ => BT0) (fun (_ : Unit) => BH f a i res (a == 0 || hitL a L)) (fun _ => True) ?_ ?_
    · repeat first|refine sgo ?_|refine cf hli (h5 := ⟨rfl, rfl, trivial⟩) ?_|refine sop ?_
      refine rng (f := 79) (lvlI := 2) (T := BT0) (H := BH f a i l0 (a == 0))
        (((((Imp.ren' (b := ⟨1, 8⟩) (c := ⟨0, 1000⟩) (by decide) (.inr rfl)).trans (Imp.ren' (b := ⟨1, 24576⟩) (c := ⟨0, 1001⟩) (by decide) (.inr rfl))).trans (Imp.ren' (b := ⟨1, 49168⟩) (c := ⟨0, 1002⟩) (by decide) (.inr rfl))).trans
          (Imp.ren' (b := ⟨1, 57360⟩) (c := ⟨0, 1003⟩) (by decide) (.inr rfl))).trans (Imp.ren' (b := ⟨1, 57361⟩) (c := ⟨0, 1004⟩) (by decide) (.inr rfl)) |>.trans xFI) vf79 ?_
      intro y
      have hf0 := xFn (f := f) (id := i) hE
      rw [xDz hL] at hf0
      refine xCX (xCv ?_)
      repeat first|refine sgo ?_|refine cf hf0 ?_|refine sop ?_
      refine xDf ?_
      refine xHf (fun (g : List EpL × List (List MsgL)) => [(0, .yld y), (1, .ptr ⟨0, 1003⟩ 1 0 0), (4, .sptr [xTZ g.1.head?] 0 0), (5, .bool g.1.head?.isSome)])
        (fun g => BH f a i g.2 (a == 0)) (fun g => g.1.length)
        (fun g => (∃ id, xGV f.eps id g.1) ∧ g.2 ++ colL a g.1 = res ∧ hitL a g.1 = hitL a L ∧ g.2.length + g.1.length ≤ 1001) (L, l0) ((Imp.wrp (t := 4) (b := ⟨2, 48⟩) rfl rfl rfl).trans xFI) ⟨⟨i, hL⟩, hres.symm, rfl, by simp only; omega⟩ ?_
      rintro ⟨R, l⟩ ⟨⟨id, hR⟩, hv, hh, hn⟩
      dsimp only at hR hv hh hn ⊢
      refine xCX (xCX (xCv ?_))
      repeat first|refine sgo ?_|refine sop ?_
      cases R with
      | nil =>
        refine xEu (xCv (xAD ?_))
        rw [colL, List.append_nil] at hv
        subst hv
        have e : (a == 0 || hitL a L) = (a == 0) := by rw [← hh]; simp [hitL]
        rw [e]
        exact mid0 () trivial xFI
      | cons e R =>
        have hne := xFn (f := f) (id := e.par) hE
        rw [xDz hR.2] at hne
        refine xI1 (xCv (xAB ?_))
        refine xCX (xDf (xCX (xGQ (xHQ 2 ?_))))
        repeat first|refine sgo ?_|refine sop ?_
        refine yl (T := [(0, .yld y), (1, .ptr ⟨0, 1003⟩ 1 0 0), (4, .sptr [encE e] 0 0), (20, .yld y), (21, .agg (encE e))]) (H := BH f a i l (a == 0)) 3 xFI ?_
        repeat first|refine sgo ?_|refine sop ?_
        refine ⟨rfl, ?_⟩
        repeat first|refine sgo ?_|refine sop ?_
        cases hc : (e.id == a) with
        | true =>
          have he : e.id = a := by simpa using hc
          refine cndt ?_
          repeat first|refine sgo ?_|refine sop ?_
          refine xAD ?_
          refine xFX ?_
          repeat first|refine sgo ?_|refine sop ?_
          refine xI1 (xCv (xAC ?_))
          rw [colL, if_pos he, List.append_nil] at hv
          subst hv
          have e1 : hitL a L = true := by rw [← hh]; simp [hitL, hc]
          rw [e1, Bool.or_true]
          exact mid0 () trivial xFI
        | false =>
          have he : ¬ e.id = a := by simpa using hc
          refine cndf (xAB ?_)
          repeat first|refine sgo ?_|refine o_v (vap xC0 e.ms) ?_|refine sop ?_
          refine xFX ?_
          repeat first|refine sgo ?_|refine sop ?_
          refine xEu (xCv (xAB ?_))
          refine xCv ?_
          repeat first|refine sgo ?_|refine cf hne ?_|refine sop ?_
          rw [colL, if_neg he] at hv
          refine agL (R, l ++ [e.ms]) ⟨⟨_, hR.2⟩, by rw [← hv]; simp, by rw [← hh]; simp [hitL, hc], by simp only [List.length_append, List.length_cons, List.length_nil] at hn ⊢; omega⟩ ((Imp.wrp (t := 4) (b := ⟨2, 40960⟩) rfl rfl rfl).trans xFI) (by simp only [List.length_cons]; omega)
    · intro _ _
      have hc := xEA (xO6 (q := .sh false (res.reverse.map xC0)) (ls := res.reverse) Sl.sh (by rw [List.length_reverse]; omega) (by rw [← xK1]; omega)) (xAZ rfl rfl)
      have hr := xP8 ht hm
      have hv := xSY (xs := res) (N := (res.map xC0).length) (by simp) (by omega)
      have hln : (res.map xC0).length = (res.reverse.map xC0).length := by simp
      cases hfd : (a == 0 || hitL a L) with
      | false =>
        rw [if_pos rfl]
        repeat first|refine sgo ?_|refine sop ?_
        refine cndt ?_
        repeat first|refine sgo ?_|refine sop ?_
        refine xD7 (Imp.wkT (t := 6) (q := .sh false (([] : List MsgL).map encM)) rfl ((CLe.nils.s rfl).a rfl |>.p (by intro l h; cases h))) ?_
        exact xAC ⟨.inr rfl, oAny rfl⟩
      | true =>
        rw [if_neg (by simp)]
        repeat first|refine sgo ?_|refine sop ?_
        refine cndf (xAB ?_)
        repeat first|refine sgo ?_|refine cl (lent := [⟨1, 40992⟩]) hv ?_|refine cf hc ?_|refine cf hr ?_|refine sop ?_
        exact xAC ⟨.inr rfl, oAny rfl⟩
end Go.Proofs
open Go.V Go.Pu
set_option linter.unusedVariables false
set_option linter.unusedSimpArgs false
set_option maxRecDepth 20000
namespace Go.Proofs
def vc15 := vcm Tryz.prog 15
theorem vf15 : VF Tryz.prog 15 = some (39, vc15, [.cell false 1 6, .cell false 1 7]) := by kernel_rfl
abbrev CT0 (b : Int) : Tmps := [(2, .int .i64 b), (3, .ptr ⟨0, 1000⟩ 1 0 0), (6, .ptr ⟨0, 1001⟩ 1 0 0), (7, .ptr ⟨0, 1002⟩ 1 0 0), (8, .ptr ⟨0, 1003⟩ 1 0 0), (24, .fn 79 [.ptr ⟨0, 1004⟩ 1 0 0, .ptr ⟨0, 1005⟩ 1 0 0])]
abbrev CH (f : ForL) (i : Int) (ks : List Int) : Heap := [(⟨0, 1000⟩, ⟨true, false, 9, [xGK f]⟩), (⟨0, 1001⟩, ⟨true, false, 1, [[.int .i64 0]]⟩), (⟨0, 1002⟩, ⟨true, false, 1, [[.int .i64 0]]⟩), (⟨0, 1003⟩, ⟨true, false, 1, [[.mapr ⟨1, 24576⟩]]⟩), (⟨1, 24576⟩, xBF (ks.map encK)),
  (⟨0, 1004⟩, ⟨true, false, 9, [xGK f]⟩), (⟨0, 1005⟩, ⟨true, false, 1, [[.int .i64 i]]⟩)]
abbrev DT0 : Tmps := [(6, .ptr ⟨0, 1001⟩ 1 0 0), (7, .ptr ⟨0, 1002⟩ 1 0 0), (8, .ptr ⟨0, 1003⟩ 1 0 0), (31, .fn 79 [.ptr ⟨0, 1006⟩ 1 0 0, .ptr ⟨0, 1007⟩ 1 0 0])]
abbrev DH (f : ForL) (i j : Int) (ks : List Int) : Heap := CH f i ks ++ [(⟨0, 1006⟩, ⟨true, false, 9, [xGK f]⟩), (⟨0, 1007⟩, ⟨true, false, 1, [[.int .i64 j]]⟩)]
set_option maxHeartbeats 8000000 in
theorem xRc {f : ForL} {a b : Int} {La Lb : List EpL} (hE : f.eps.length ≤ 1000) (hLa : xGV f.eps (if a = 0 then f.par else a) La) (hLb : xGV f.eps (if b = 0 then f.par else b) Lb) (hl : La.length ≤ 1000) (hnd : (La.map EpL.id).Nodup) :
    VC Tryz.prog 15 [.agg (xGK f), .int .i64 a, .int .i64 b] [] (.tup [.int .i64 (xIy f.eps a b La Lb).1, .int .i64 (xIy f.eps a b La Lb).2]) [] := by
  have s1 := xHP (f := f) (id := a) hE
  have s2 := xHP (f := f) (id := b) hE
  unfold xIy
  cases ha : xFL f.eps a with
  | false =>
    rw [ha] at s1
    refine xBV vf15 ?_ (Nat.le_of_ble_eq_true rfl) (by intro vs h; cases h; simp)
    repeat first|refine sgo ?_|refine cv0 s1 ?_|refine sop ?_
    refine cndt ?_
    repeat first|refine sgo ?_|refine sop ?_
    exact xAC ⟨.inr rfl, oAny rfl⟩
  | true =>
  cases hb : xFL f.eps b with
  | false =>
    rw [ha] at s1
    rw [hb] at s2
    refine xBV vf15 ?_ (Nat.le_of_ble_eq_true rfl) (by intro vs h; cases h; simp)
    repeat first|refine sgo ?_|refine cv0 s1 ?_|refine cv0 s2 ?_|refine sop ?_
    refine cndt ?_
    repeat first|refine sgo ?_|refine sop ?_
    exact xAC ⟨.inr rfl, oAny rfl⟩
  | true =>
  rw [ha] at s1
  rw [hb] at s2
  rw [if_neg (by simp)]
  obtain ⟨i, hi⟩ : ∃ i, i = (if a = 0 then f.par else a) := ⟨_, rfl⟩
  obtain ⟨j, hj⟩ : ∃ j, j = (if b = 0 then f.par else b) := ⟨_, rfl⟩
  have hli := xMq (f := f) (id := a)
  have hlj := xMq (f := f) (id := b)
  rw [← hi] at hLa hli
  rw [← hj] at hLb hlj
  refine xBV vf15 ?_ (Nat.le_of_ble_eq_true rfl) (by intro vs h; cases h; simp)
  repeat first|refine sgo ?_|refine cv0 s1 ?_|refine cv0 s2 ?_|refine sop ?_
  refine cndf (xAB ?_)
  refine xAb (rg ?_)
  repeat first|refine xAP ?_|refine o_v vmpN ?_|refine sop ?_
  refine nl ?_
  refine xCC (lvl := 1) (fun _ => CT0 b) (fun (_ : Unit) => CH f i (La.map EpL.id)) (fun _ => True) ?_ ?_
  · repeat first|refine sgo ?_|refine cf hli (h5 := ⟨rfl, rfl, trivial⟩) ?_|refine sop ?_
    refine rng (f := 79) (lvlI := 2) (T := CT0 b) (H := CH f i [])
      ((((((Imp.ren' (b := ⟨1, 0⟩) (c := ⟨0, 1000⟩) (by decide) (.inr rfl)).trans (Imp.ren' (b := ⟨1, 8⟩) (c := ⟨0, 1001⟩) (by decide) (.inr rfl))).trans (Imp.ren' (b := ⟨1, 16⟩) (c := ⟨0, 1002⟩) (by decide) (.inr rfl))).trans (Imp.ren' (b := ⟨1, 24584⟩) (c := ⟨0, 1003⟩) (by decide) (.inr rfl))).trans
        (Imp.ren' (b := ⟨1, 32784⟩) (c := ⟨0, 1004⟩) (by decide) (.inr rfl))).trans (Imp.ren' (b := ⟨1, 32785⟩) (c := ⟨0, 1005⟩) (by decide) (.inr rfl)) |>.trans xFI) vf79 ?_
    intro y
    have hf0 := xFn (f := f) (id := i) hE
    rw [xDz hLa] at hf0
    refine xCX (xCv ?_)
    repeat first|refine sgo ?_|refine cf hf0 ?_|refine sop ?_
    refine xDf ?_
    refine xHf (fun (g : List EpL × List Int) => [(0, .yld y), (1, .ptr ⟨0, 1004⟩ 1 0 0), (4, .sptr [xTZ g.1.head?] 0 0), (5, .bool g.1.head?.isSome)])
      (fun g => CH f i g.2) (fun g => g.1.length)
      (fun g => (∃ id, xGV f.eps id g.1) ∧ g.2 ++ g.1.map EpL.id = La.map EpL.id) (La, []) ((Imp.wrp (t := 4) (b := ⟨2, 48⟩) rfl rfl rfl).trans xFI) ⟨⟨i, hLa⟩, rfl⟩ ?_
    rintro ⟨R, ks⟩ ⟨⟨id, hR⟩, hv⟩
    dsimp only at hR hv ⊢
    refine xCX (xCX (xCv ?_))
    repeat first|refine sgo ?_|refine sop ?_
    cases R with
    | nil =>
      refine xEu (xCv (xAD ?_))
      rw [List.map_nil, List.append_nil] at hv
      rw [← hv]
      exact mid0 () trivial xFI
    | cons e R =>
      have hne := xFn (f := f) (id := e.par) hE
      rw [xDz hR.2] at hne
      refine xI1 (xCv (xAB ?_))
      refine xCX (xDf (xCX (xGQ (xHQ 2 ?_))))
      repeat first|refine sgo ?_|refine sop ?_
      refine yl (T := [(0, .yld y), (1, .ptr ⟨0, 1004⟩ 1 0 0), (4, .sptr [encE e] 0 0), (20, .yld y), (21, .agg (encE e))]) (H := CH f i ks) 3 xFI ?_ (hps := fun p hp => by rw [List.mem_singleton.1 hp]; exact (by decide : 25 < 39))
      repeat first|refine sgo ?_|refine sop ?_
      refine ⟨rfl, ?_⟩
      have hnc : ks.contains e.id = false := by
        rw [← hv, List.map_cons] at hnd
        have := (List.nodup_append.1 hnd).2.2
        cases hc : ks.contains e.id with
        | false => rfl
        | true => exact absurd rfl (this e.id (by simpa using hc) e.id (by simp))
      repeat first|refine sgo ?_|refine o_v vmpS ?_|refine sop ?_
      refine xFX ?_
      repeat first|refine sgo ?_|refine sop ?_
      refine xEu (xCv (xAB ?_))
      refine xCv ?_
      repeat first|refine sgo ?_|refine cf hne ?_|refine sop ?_
      refine agL (R, ks ++ [e.id]) ⟨⟨_, hR.2⟩, by rw [← hv]; simp⟩ ((Imp.wrp (t := 4) (b := ⟨2, 40960⟩) rfl rfl rfl).trans xFI) (by simp only [List.length_cons]; omega)
  · intro _ _
    refine xCC (lvl := 1) (fun _ => DT0) (fun (_ : Unit) => DH f i j (La.map EpL.id)) (fun _ => xFm (La.map EpL.id) Lb = 0) ?_ ?_
    · repeat first|refine sgo ?_|refine cf hlj (h5 := ⟨rfl, rfl, trivial⟩) ?_|refine sop ?_
      refine rng (f := 79) (lvlI := 2) (T := DT0) (H := DH f i j (La.map EpL.id)) ((Imp.ren' (b := ⟨1, 57360⟩) (c := ⟨0, 1006⟩) (by decide) (.inr rfl)).trans (Imp.ren' (b := ⟨1, 57361⟩) (c := ⟨0, 1007⟩) (by decide) (.inr rfl)) |>.trans xFI) vf79 ?_
      intro y
      have hf0 := xFn (f := f) (id := j) hE
      rw [xDz hLb] at hf0
      refine xCX (xCv ?_)
      repeat first|refine sgo ?_|refine cf hf0 ?_|refine sop ?_
      refine xDf ?_
      refine xHf (fun (g : List EpL) => [(0, .yld y), (1, .ptr ⟨0, 1006⟩ 1 0 0), (4, .sptr [xTZ g.head?] 0 0), (5, .bool g.head?.isSome)])
        (fun g => DH f i j (La.map EpL.id)) (fun g => g.length)
        (fun g => (∃ id, xGV f.eps id g) ∧ xFm (La.map EpL.id) g = xFm (La.map EpL.id) Lb) Lb ((Imp.wrp (t := 4) (b := ⟨2, 48⟩) rfl rfl rfl).trans xFI) ⟨⟨j, hLb⟩, rfl⟩ ?_
      rintro R ⟨⟨id, hR⟩, hv⟩
      dsimp only at hR hv ⊢
      refine xCX (xCX (xCv ?_))
      repeat first|refine sgo ?_|refine sop ?_
      cases R with
      | nil =>
        refine xEu (xCv (xAD ?_))
        exact mid0 () hv.symm xFI
      | cons e R =>
        have hne := xFn (f := f) (id := e.par) hE
        rw [xDz hR.2] at hne
        refine xI1 (xCv (xAB ?_))
        refine xCX (xDf (xCX (xGQ (xHQ 2 ?_))))
        repeat first|refine sgo ?_|refine sop ?_
        refine yl (T := [(0, .yld y), (1, .ptr ⟨0, 1006⟩ 1 0 0), (4, .sptr [encE e] 0 0), (20, .yld y), (21, .agg (encE e))]) (H := DH f i j (La.map EpL.id)) 3 xFI ?_
        repeat first|refine sgo ?_|refine sop ?_
        refine ⟨rfl, ?_⟩
        repeat first|refine sgo ?_|refine o_v vmpL ?_|refine sop ?_
        cases hc : (La.map EpL.id).contains e.id with
        | true =>
          rw [xFm, if_pos hc] at hv
          refine cndt ?_
          repeat first|refine sgo ?_|refine sop ?_
          refine xAC ?_
          refine xFX ?_
          repeat first|refine sgo ?_|refine sop ?_
          refine xI1 (xCv (xAC ?_))
          rw [← hv]
          exact ⟨.inr rfl, oAny rfl⟩
        | false =>
          rw [xFm, if_neg (by rw [hc]; simp)] at hv
          refine cndf (xAB ?_)
          refine xFX ?_
          repeat first|refine sgo ?_|refine sop ?_
          refine xEu (xCv (xAB ?_))
          refine xCv ?_
          repeat first|refine sgo ?_|refine cf hne ?_|refine sop ?_
          refine agL R ⟨⟨_, hR.2⟩, hv⟩ ((Imp.wrp (t := 4) (b := ⟨2, 40960⟩) rfl rfl rfl).trans xFI) (by simp only [List.length_cons]; omega)
    · intro _ h0
      rw [h0]
      repeat first|refine sgo ?_|refine sop ?_
      exact xAC ⟨.inr rfl, oAny rfl⟩
end Go.Proofs
open Go.V Go.Pu
set_option linter.unusedVariables false
set_option linter.unusedSimpArgs false
set_option maxRecDepth 20000
namespace Go.Proofs
def vc28 := vcm Tryz.prog 28
theorem vf28 : VF Tryz.prog 28 = some (13, vc28, [.tmp 4]) := by kernel_rfl
def vc58 := vcm Tryz.prog 58
theorem vf58 : VF Tryz.prog 58 = some (10, vc58, [.tmp 4]) := by kernel_rfl
def vc60 := vcm Tryz.prog 60
theorem vf60 : VF Tryz.prog 60 = some (51, vc60, []) := by kernel_rfl
def vc61 : VCode :=
 (.block 0
 (.seq
 (.region 0 false [
 .e 6 (.copy (.t 1)) 0,
 .e 7 (.eqc false [7] (.t 6) (.c .nilp)) 8,
 .e 5 (.copy (.t 7)) 16])
 (.cond (.t 5)
 (.region 1 true [
 .e 8 (.load false 1 (.t 2)) 8192,
 .e 9 (.copy (.t 0)) 8200,
 .f 10 (.nilc (.t 9)) 8208 [1],
 .f 11 (.faddr 0 (.t 10)) 8216 [2, 1],
 .f 12 (.load false 1 (.t 11)) 8224 [3, 2, 1],
 .f 13 (.build [(.int .i64 0), (.str []), (.str []), (.str []), (.str []), (.str []), (.str []), (.int .i64 0)] [(0, 1, (.c (.int .i64 2))), (1, 1, (.t 12))]) 8232 [4, 3, 2, 1],
 .f 14 (.bslice 8 [(.int .i64 0), (.str []), (.str []), (.str []), (.str []), (.str []), (.str []), (.int .i64 0)] 1 [(0, (.t 13))]) 8240 [5, 4, 3, 2, 1],
 .f 15 (.append 8 112 [(.int .i64 0), (.str []), (.str []), (.str []), (.str []), (.str []), (.str []), (.int .i64 0)] (.t 8) (.t 14)) 8248 [0, 6, 5, 4, 3, 2, 1],
 .h (.store 1 (.t 2) (.t 15)) 8256 [7, 0, 6, 5, 4, 3, 2, 1]])
 (.seq
 (.region 2 true [
 .e 17 (.copy (.t 0)) 16384,
 .f 18 (.eqc false [7] (.t 17) (.c .nilp)) 16392 [0],
 .f 19 (.copy (.t 18)) 16400 [1, 0],
 .g 20 (.copy (.t 0)) 2 19 false 16408 [2, 1, 0],
 .g 21 (.nilc (.t 20)) 2 19 false 16416 [3, 2, 1, 0],
 .g 22 (.load true 3 (.t 21)) 2 19 false 16424 [4, 3, 2, 1, 0],
 .g 23 (.copy (.t 1)) 2 19 false 16432 [2, 1, 0],
 .g 24 (.nilc (.t 23)) 2 19 false 16440 [6, 2, 1, 0],
 .g 25 (.load true 3 (.t 24)) 2 19 false 16448 [7, 6, 2, 1, 0],
 .g 26 (.eqc true [2, 2, 1] (.t 22) (.t 25)) 2 19 false 16456 [5, 4, 3, 2, 1, 0, 8, 7, 6],
 .f 27 (.pick (.t 19) (.c (.bool true)) (.t 26)) 16464 [2, 1, 0, 9, 5, 4, 3, 8, 7, 6],
 .f 16 (.copy (.t 27)) 16472 [10, 2, 1, 0, 9, 5, 4, 3, 8, 7, 6]])
 (.cond (.t 16)
 (.region 3 true [
 .e 28 (.load false 1 (.t 2)) 24576,
 .e 29 (.copy (.t 1)) 24584,
 .f 30 (.nilc (.t 29)) 24592 [1],
 .f 31 (.faddr 0 (.t 30)) 24600 [2, 1],
 .f 32 (.load false 1 (.t 31)) 24608 [3, 2, 1],
 .e 33 (.copy (.t 1)) 24616,
 .f 34 (.nilc (.t 33)) 24624 [5],
 .f 35 (.faddr 1 (.t 34)) 24632 [6, 5],
 .f 36 (.load false 1 (.t 35)) 24640 [7, 6, 5],
 .e 37 (.copy (.t 1)) 24648,
 .f 38 (.nilc (.t 37)) 24656 [9],
 .f 39 (.faddr 2 (.t 38)) 24664 [10, 9],
 .f 40 (.load false 1 (.t 39)) 24672 [11, 10, 9],
 .f 41 (.build [(.int .i64 0), (.str []), (.str []), (.str []), (.str []), (.str []), (.str []), (.int .i64 0)] [(0, 1, (.c (.int .i64 1))), (1, 1, (.t 32)), (2, 1, (.t 36)), (7, 1, (.t 40))]) 24680 [4, 3, 2, 1, 8, 7, 6, 5, 12, 11, 10, 9],
 .f 42 (.bslice 8 [(.int .i64 0), (.str []), (.str []), (.str []), (.str []), (.str []), (.str []), (.int .i64 0)] 1 [(0, (.t 41))]) 24688 [13, 4, 3, 2, 1, 8, 7, 6, 5, 12, 11, 10, 9],
 .f 43 (.append 8 112 [(.int .i64 0), (.str []), (.str []), (.str []), (.str []), (.str []), (.str []), (.int .i64 0)] (.t 28) (.t 42)) 24696 [0, 14, 13, 4, 3, 2, 1, 8, 7, 6, 5, 12, 11, 10, 9],
 .h (.store 1 (.t 2) (.t 43)) 24704 [15, 0, 14, 13, 4, 3, 2, 1, 8, 7, 6, 5, 12, 11, 10, 9]])
 .skip)))))
theorem vf61 : VF Tryz.prog 61 = some (44, vc61, []) := by kernel_rfl
abbrev obx (o : List MsgL) : List Blk := [⟨true, false, 1, [[ownV ⟨0, 1⟩ (o.map encM)]]⟩, blkV 8 (o.map encM)]
theorem xTk (p q : PairL) : VC Tryz.prog 58 [.agg (encP p), .agg (encP q)] [] (.int .i64 (xBr p.key q.key)) [] := by
  refine vcs vf58 ?_
  repeat first|refine sgo ?_|refine cv0 (xRg p.key q.key) ?_|refine sop ?_
  exact xAC ⟨.inr rfl, oI rfl⟩
theorem xNF (x : PairL) (a : List PairL) {o : List MsgL} (ho : o.length ≤ 1000000) : VC Tryz.prog 61 [.sptr ((x :: a).map encP) 0 0, .nilp, .ptr ⟨0, 0⟩ 1 0 0] (obx o) (.tup []) (obx (o ++ [delD x.key])) := by
  refine xBV vf61 ?_ (Nat.le_of_ble_eq_true rfl) (by intro vs h; cases h; simp)
  repeat first|refine sgo ?_|refine sop ?_
  refine cndt ?_
  repeat first|refine sgo ?_|refine o_v (vap encM (delD x.key)) ?_|refine sop ?_
  refine ⟨.inl rfl, ?_⟩
  exact oG []
theorem xON (a b : PairL) {neg : Bool} {lvl site : Nat} {tf : TF} {hf : HF} {x y : VX} (hx : ev tf x = some (.agg (encP a)) := by rfl) (hy : ev tf y = some (.agg (encP b)) := by rfl) :
    vop lvl site tf hf (.eqc neg [2, 2, 1] x y) = some ⟨.bool (if neg then !decide (a = b) else decide (a = b)), [], []⟩ := by
  obtain ⟨a1, a2, a3⟩ := a
  obtain ⟨b1, b2, b3⟩ := b
  have h : (a1 == b1 && (a2 == b2 && a3 == b3)) = decide ((⟨a1, a2, a3⟩ : PairL) = ⟨b1, b2, b3⟩) := by
    rw [Bool.eq_iff_iff]
    simp
  rw [← h]
  simp [vop, hx, hy, xAv, xB3, retV]
theorem xNE (y : PairL) (b : List PairL) {o : List MsgL} (ho : o.length ≤ 1000000) : VC Tryz.prog 61 [.nilp, .sptr ((y :: b).map encP) 0 0, .ptr ⟨0, 0⟩ 1 0 0] (obx o) (.tup []) (obx (o ++ [putD y])) := by
  refine xBV vf61 ?_ (Nat.le_of_ble_eq_true rfl) (by intro vs h; cases h; simp)
  repeat first|refine sgo ?_|refine sop ?_
  refine cndf ?_
  repeat first|refine sgo ?_|refine sop ?_
  refine cndt ?_
  repeat first|refine sgo ?_|refine o_v (vap encM (putD y)) ?_|refine sop ?_
  refine ⟨.inl rfl, ?_⟩
  exact oG []
theorem xPU (x : PairL) (a : List PairL) (y : PairL) (b : List PairL) {o : List MsgL} (ho : o.length ≤ 1000000) : VC Tryz.prog 61 [.sptr ((x :: a).map encP) 0 0, .sptr ((y :: b).map encP) 0 0, .ptr ⟨0, 0⟩ 1 0 0] (obx o) (.tup []) (obx (o ++ if x = y then [] else [putD y])) := by
  by_cases h : x = y
  · rw [if_pos h, List.append_nil]
    have hd : decide (x = y) = true := decide_eq_true h
    refine xBV vf61 ?_ (Nat.le_of_ble_eq_true rfl) (by intro vs h; cases h; simp)
    repeat first|refine sgo ?_|refine sop ?_
    refine cndf ?_
    repeat first|refine sgo ?_|refine o_v0 (xON x y) ?_|refine sop ?_
    refine cndf (xAB ?_) rfl (by simp [h])
    refine ⟨.inl rfl, ?_⟩
    exact oG []
  · rw [if_neg h]
    refine xBV vf61 ?_ (Nat.le_of_ble_eq_true rfl) (by intro vs h; cases h; simp)
    repeat first|refine sgo ?_|refine sop ?_
    refine cndf ?_
    repeat first|refine sgo ?_|refine o_v0 (xON x y) ?_|refine sop ?_
    refine cndt ?_ rfl (by simp [h])
    repeat first|refine sgo ?_|refine o_v (vap encM (putD y)) ?_|refine sop ?_
    refine ⟨.inl rfl, ?_⟩
    exact oG []
abbrev mgT (a b : List PairL) : Tmps := [(0, .sh false (a.map encP)), (1, .sh false (b.map encP)), (2, .fn 58 []), (3, .fn 61 [.ptr ⟨0, 0⟩ 1 0 0])]
abbrev mgH (o : List MsgL) : Heap := [(⟨0, 0⟩, ⟨true, false, 1, [[ownV ⟨0, 1⟩ (o.map encM)]]⟩), (⟨0, 1⟩, blkV 8 (o.map encM))]
theorem cs_neg {a b : Str} (h : Op.bytesLess a b = true) : xBr a b = -1 := by unfold xBr; rw [if_pos h]
set_option maxHeartbeats 4000000 in
theorem xS3 {a b : List PairL} {o : List MsgL} (hl : o.length + a.length + b.length ≤ 100000) : VC Tryz.prog 60 [.sh false (a.map encP), .sh false (b.map encP), .fn 58 [], .fn 61 [.ptr ⟨0, 0⟩ 1 0 0]] (obx o) (.tup []) (obx (o ++ xAt a b)) := by
  obtain ⟨res, hres⟩ : ∃ res, res = o ++ xAt a b := ⟨_, rfl⟩
  rw [← hres]
  refine xBV vf60 ?_ (Nat.le_of_ble_eq_true rfl) (by intro vs h; cases h; simp)
  refine xA0 ?_
  refine xAE (fun (g : List PairL × List PairL × List MsgL) => mgT g.1 g.2.1) (fun g => mgH g.2.2) (fun g => g.1.length + g.2.1.length)
    (fun g => g.2.2 ++ xAt g.1 g.2.1 = res ∧ g.2.2.length + g.1.length + g.2.1.length ≤ 100000) (a, b, o) xAi ⟨hres.symm, hl⟩ ?_
  rintro ⟨p, q, u⟩ ⟨hv, hl⟩
  dsimp only at hv hl ⊢
  generalize hlen : (obx o).length = N
  obtain rfl : N = 2 := hlen.symm
  clear hres hlen
  have hx0 : ∀ (x : PairL) (l : List PairL), ((x :: l).map encP)[(0 : Int).toNat]? = some (encP x) := fun x l => rfl
  cases p with
  | nil =>
    cases q with
    | nil =>
      rw [xCt, List.map_nil, List.append_nil] at hv
      subst hv
      repeat first|refine sgo ?_|refine sop ?_
      refine cndf (xAD ?_)
      exact ⟨.inl rfl, oG []⟩
    | cons y q =>
      rw [xFO] at hv
      simp only [List.length_cons, List.length_nil] at hl
      have hy := hx0 y q
      have ht := xNE y q (o := u) (by omega)
      have g1 : decide ((((y :: q).map encP).length : Int) > 0) = true := decide_eq_true (by simp <;> omega)
      repeat first|refine sgo ?_|refine sop ?_
      refine cndt (xAB ?_)
      repeat first|refine sgo ?_|refine sop ?_
      refine cndt ?_
      repeat first|refine sgo ?_|refine sop ?_
      refine cndf (xAB ?_)
      repeat first|refine sgo ?_|refine sop ?_
      refine cndt ?_
      repeat first|refine sgo ?_|refine o_v0 vsl1 ?_|refine cl (lent := [⟨0, 0⟩, ⟨0, 1⟩]) ht ?_|refine sop ?_
      exact agn (Q := fun _ _ => True) ([], q, u ++ [putD y]) ⟨by rw [← hv]; simp, by simp only [List.length_append, List.length_cons, List.length_nil]; omega⟩ xAi (by simp)
  | cons x p =>
    have hx := hx0 x p
    have g1 : decide ((((x :: p).map encP).length : Int) > 0) = true := decide_eq_true (by simp <;> omega)
    have g2 : ((((x :: p).map encP).length : Int) == 0) = false := by simp <;> omega
    cases q with
    | nil =>
      rw [xDk] at hv
      simp only [List.length_cons, List.length_nil] at hl
      have ht := xNF x p (o := u) (by omega)
      repeat first|refine sgo ?_|refine sop ?_
      refine cndt (xAB ?_)
      repeat first|refine sgo ?_|refine sop ?_
      refine cndf ?_
      repeat first|refine sgo ?_|refine sop ?_
      refine cndt ?_
      repeat first|refine sgo ?_|refine sop ?_
      refine cndt ?_
      repeat first|refine sgo ?_|refine o_v0 vsl1 ?_|refine sop ?_
      refine cndf (xAB ?_)
      repeat first|refine sgo ?_|refine cl (lent := [⟨0, 0⟩, ⟨0, 1⟩]) ht ?_|refine sop ?_
      exact agn (Q := fun _ _ => True) (p, [], u ++ [delD x.key]) ⟨by rw [← hv]; simp, by simp only [List.length_append, List.length_cons, List.length_nil]; omega⟩ xAi (by simp)
    | cons y q =>
      rw [xE8] at hv
      simp only [List.length_cons] at hl
      have hy := hx0 y q
      have g3 : ((((y :: q).map encP).length : Int) == 0) = false := by simp <;> omega
      have hk := xTk x y
      rcases xBi x.key y.key with h | h | h
      · rw [if_pos h] at hv
        rw [cs_neg h] at hk
        have ht := xNF x p (o := u) (by omega)
        repeat first|refine sgo ?_|refine sop ?_
        refine cndt (xAB ?_)
        repeat first|refine sgo ?_|refine sop ?_
        refine cndf ?_
        repeat first|refine sgo ?_|refine sop ?_
        refine cndf ?_
        repeat first|refine sgo ?_|refine cv0 hk ?_|refine sop ?_
        refine cndt ?_
        repeat first|refine sgo ?_|refine o_v0 vsl1 ?_|refine sop ?_
        refine cndf (xAB ?_)
        repeat first|refine sgo ?_|refine cl (lent := [⟨0, 0⟩, ⟨0, 1⟩]) ht ?_|refine sop ?_
        exact agn (Q := fun _ _ => True) (p, y :: q, u ++ [delD x.key]) ⟨by rw [← hv]; simp, by simp only [List.length_append, List.length_cons, List.length_nil]; omega⟩ xAi (by simp)
      · have hn : ¬ Op.bytesLess x.key y.key = true := by rw [h, xAg]; simp
        rw [if_neg hn, if_pos h] at hv
        have e : xBr x.key y.key = 0 := cmpStr_eq.2 h
        rw [e] at hk
        have ht := xPU x p y q (o := u) (by omega)
        repeat first|refine sgo ?_|refine sop ?_
        refine cndt (xAB ?_)
        repeat first|refine sgo ?_|refine sop ?_
        refine cndf ?_
        repeat first|refine sgo ?_|refine sop ?_
        refine cndf ?_
        repeat first|refine sgo ?_|refine cv0 hk ?_|refine sop ?_
        refine cndt ?_
        repeat first|refine sgo ?_|refine o_v0 vsl1 ?_|refine sop ?_
        refine cndt ?_
        repeat first|refine sgo ?_|refine o_v0 vsl1 ?_|refine cl (lent := [⟨0, 0⟩, ⟨0, 1⟩]) ht ?_|refine sop ?_
        refine agn (Q := fun _ _ => True) (p, q, u ++ if x = y then [] else [putD y]) ⟨?_, ?_⟩ xAi (by simp only [List.length_cons]; omega)
        · rw [← hv]; simp only; split <;> simp
        · simp only [List.length_append]; split <;> simp <;> omega
      · have hn : ¬ Op.bytesLess x.key y.key = true := by rw [xBx h]; simp
        have hne : ¬ x.key = y.key := fun e => by rw [e, xAg] at h; cases h
        rw [if_neg hn, if_neg hne] at hv
        have e : xBr x.key y.key = 1 := by unfold xBr; rw [if_neg hn, if_neg hne]
        rw [e] at hk
        have ht := xNE y q (o := u) (by omega)
        repeat first|refine sgo ?_|refine sop ?_
        refine cndt (xAB ?_)
        repeat first|refine sgo ?_|refine sop ?_
        refine cndf ?_
        repeat first|refine sgo ?_|refine sop ?_
        refine cndf ?_
        repeat first|refine sgo ?_|refine cv0 hk ?_|refine sop ?_
        refine cndf (xAB ?_)
        repeat first|refine sgo ?_|refine sop ?_
        refine cndt ?_
        repeat first|refine sgo ?_|refine o_v0 vsl1 ?_|refine cl (lent := [⟨0, 0⟩, ⟨0, 1⟩]) ht ?_|refine sop ?_
        exact agn (Q := fun _ _ => True) (x :: p, q, u ++ [putD y]) ⟨by rw [← hv]; simp, by simp <;> omega⟩ xAi (by simp only [List.length_cons]; omega)
set_option maxHeartbeats 2000000 in
theorem xFt {a b : List PairL} (hl : a.length + b.length ≤ 100000) : VC Tryz.prog 28 [.sh false (a.map encP), .sh false (b.map encP)] [] (.sh false ((xAt a b).map encM)) [] := by
  have h := xS3 (a := a) (b := b) (o := []) (by simp; omega)
  rw [List.nil_append] at h
  refine xEA (v := ownV ⟨0, 0⟩ ((xAt a b).map encM)) (hout := [blkV 8 ((xAt a b).map encM)]) ?_ (xAZ rfl rfl)
  refine vcs vf28 ?_
  refine xAb (rg ?_)
  repeat first|refine xAP ?_|refine sop ?_
  refine nl ?_
  refine xAb (rg ?_)
  repeat first|refine xAP ?_|refine sop ?_
  refine nl ?_
  refine xD7 (Imp.nilH (b := ⟨1, 8193⟩) (b1 := ⟨1, 8192⟩) (esz := 8) rfl rfl (by decide)) ?_
  repeat first|refine sgo ?_|refine cl (lent := [⟨1, 8192⟩, ⟨1, 8193⟩]) h ?_|refine sop ?_
  exact xAC ⟨.inr rfl, oG [⟨1, 8193⟩]⟩
end Go.Proofs
