/- Ha -/
import Derived.Test.YtlpjfoijjlmgeaaGreatDoorMa
import Derived.Test.YtlpjfoijjlmgeaaGreatDoorPu
import Derived.Test.YtlpjfoijjlmgeaaGreatDoorTa
open Go.V Go.Pu
set_option linter.unusedVariables false
set_option linter.unusedSimpArgs false
set_option maxRecDepth 20000
namespace Go.Proofs
def vc153 := vcm Tryz.prog 153
theorem vf153 : VF Tryz.prog 153 = some (33, vc153, [.tmp 4]) := by kernel_rfl
def vc154 := vcm Tryz.prog 154
theorem vf154 : VF Tryz.prog 154 = some (16, vc154, []) := by kernel_rfl
def vc155 := vcm Tryz.prog 155
theorem vf155 : VF Tryz.prog 155 = some (12, vc155, [.tmp 4]) := by kernel_rfl
def vc156 := vcm Tryz.prog 156
theorem vf156 : VF Tryz.prog 156 = some (12, vc156, [.tmp 4]) := by kernel_rfl
def vc157 := vcm Tryz.prog 157
theorem vf157 : VF Tryz.prog 157 = some (17, vc157, [.tmp 4]) := by kernel_rfl
def vc158 := vcm Tryz.prog 158
theorem vf158 : VF Tryz.prog 158 = some (8, vc158, [.tmp 4]) := by kernel_rfl
def vc159 := vcm Tryz.prog 159
theorem vf159 : VF Tryz.prog 159 = some (24, vc159, [.tmp 4]) := by kernel_rfl
def vc160 := vcm Tryz.prog 160
theorem vf160 : VF Tryz.prog 160 = some (16, vc160, [.tmp 4]) := by kernel_rfl
abbrev fC (pk : Str) (a : FolL) : List PV := [.bool false, .bool a.has, .str pk, .str (if a.has = true then a.val else []), .int .i64 (if a.has = true then a.st else 0), .str a.key, .bool a.std, .int .i64 a.st]
abbrev bxF (pk : Str) (a : FolL) : Blk := ⟨true, false, 8, [fC pk a]⟩
theorem xMh (k p : Str) (hk : k.length ≤ 1000000000) (hp : p.length ≤ 1000000000) : VC Tryz.prog 158 [.str k, .str p] [] (.bool (xAD k p)) [] := by
  have h := xED k p hk hp
  refine vcs vf158 ?_
  repeat first|refine sgo ?_|refine cv0 h ?_|refine sop ?_
  exact xAC ⟨.inr rfl, oAny rfl⟩
theorem xLV (b0 b1 : Bool) (s2 s3 : Str) (n4 : Int) (s5 : Str) (sd : Bool) (st n : Int) :
    VC Tryz.prog 154 [.ptr ⟨0, 0⟩ 1 0 0, .int .i64 n] [⟨true, false, 8, [[.bool b0, .bool b1, .str s2, .str s3, .int .i64 n4, .str s5, .bool sd, .int .i64 st]]⟩] (.tup []) [⟨true, false, 8, [[.bool b0, .bool b1, .str s2, .str s3, .int .i64 n4, .str s5, .bool true, .int .i64 (if sd = true then st else n)]]⟩] := by
  cases sd
  · refine xCL vf154 ?_ (Nat.le_of_ble_eq_true rfl) (by intro vs h; cases h; simp)
    repeat first|refine sgo ?_|refine sop ?_
    refine cndt ?_
    repeat first|refine sgo ?_|refine sop ?_
    exact ⟨.inl rfl, oG []⟩
  · refine xCL vf154 ?_ (Nat.le_of_ble_eq_true rfl) (by intro vs h; cases h; simp)
    repeat first|refine sgo ?_|refine sop ?_
    refine cndf (xAB ?_)
    exact ⟨.inl rfl, oG []⟩
theorem xJT (f : FolL) (n : Int) : (xBd f n).std = true ∧ (xBd f n).st = if f.std = true then f.st else n := by
  unfold xBd
  split <;> simp [*]
theorem xJE (pk : Str) (a : FolL) (b : Bool) : bxF pk { a with known := b } = bxF pk a := rfl
theorem bx_no (pk : Str) {a : FolL} (h : a.has = false) : bxF pk a = ⟨true, false, 8, [[.bool false, .bool false, .str pk, .str [], .int .i64 0, .str a.key, .bool a.std, .int .i64 a.st]]⟩ := by
  simp only [bxF, fC, h, Bool.false_eq_true, if_false]
theorem s1_vc (pk : Str) {a : FolL} (h1 : a.has = false) {m : MsgL} (hk : m.kind = 1) (ha : a.known = false) : VC Tryz.prog 153 [.ptr ⟨0, 0⟩ 1 0 0, .agg (encM m)] [bxF pk a] (.bool (xAl a m).known) [bxF pk (xAl a m)] := by
  have hst := xLV false false pk [] 0 a.key a.std a.st m.n
  have he : xAl a m = if m.key = a.key then { xBd a m.n with known := true, has := true, val := m.val } else a := by unfold xAl; rw [if_pos hk]
  obtain ⟨e1, e2⟩ := xJT a m.n
  obtain ⟨e3, _⟩ := xCi a m.n
  cases hc : (m.key == a.key) with
  | true =>
    have hc' : m.key = a.key := by simpa using hc
    have hn : (!(m.key == a.key)) = false := by rw [hc]; rfl
    have ef : bxF pk (xAl a m) = ⟨true, false, 8, [[.bool false, .bool true, .str pk, .str m.val, .int .i64 (if a.std = true then a.st else m.n), .str a.key, .bool true, .int .i64 (if a.std = true then a.st else m.n)]]⟩ := by
      rw [he, if_pos hc']
      simp only [bxF, fC, if_true, e1, e2, e3]
    have ek : (xAl a m).known = true := by rw [he, if_pos hc']
    rw [ef, ek, bx_no pk h1]
    refine vcs vf153 ?_
    repeat first|refine sgo ?_|refine sop ?_
    refine cndf (xAB ?_)
    repeat first|refine sgo ?_|refine cl (lent := [⟨0, 0⟩]) hst ?_|refine sop ?_
    refine xAC ⟨.inr rfl, ?_⟩
    exact oG []
  | false =>
    have hc' : ¬ m.key = a.key := by simpa using hc
    have hn : (!(m.key == a.key)) = true := by rw [hc]; rfl
    have ee : xAl a m = a := by rw [he, if_neg hc']
    rw [ee, ha]
    refine vcs vf153 ?_
    repeat first|refine sgo ?_|refine sop ?_
    refine cndt ?_
    repeat first|refine sgo ?_|refine sop ?_
    refine xAC ⟨.inr rfl, ?_⟩
    exact oG []
theorem s2_vc (pk : Str) {a : FolL} {m : MsgL} (hk : m.kind = 2) (ha : a.known = false) : VC Tryz.prog 155 [.ptr ⟨0, 0⟩ 1 0 0, .agg (encM m)] [bxF pk a] (.bool (xAl a m).known) [bxF pk (xAl a m)] := by
  have he : xAl a m = { a with known := m.key == a.key } := by
    unfold xAl
    rw [if_neg (by omega), if_pos hk]
    cases hc : (m.key == a.key)
    · rw [if_neg (by simpa using hc), ← ha]
    · rw [if_pos (by simpa using hc)]
  rw [he, xJE]
  refine vcs vf155 ?_
  repeat first|refine sgo ?_|refine sop ?_
  refine xAC ⟨.inr rfl, ?_⟩
  exact oG []
theorem s3_vc (pk : Str) {a : FolL} {m : MsgL} (hk : m.kind = 3) (ha : a.known = false) : VC Tryz.prog 156 [.ptr ⟨0, 0⟩ 1 0 0, .agg (encM m)] [bxF pk a] (.bool (xAl a m).known) [bxF pk (xAl a m)] := by
  have he : xAl a m = { a with known := hasL m.sp a.key } := by
    unfold xAl
    rw [if_neg (by omega), if_neg (by omega), if_pos hk]
    cases hc : hasL m.sp a.key
    · rw [if_neg (by simp), ← ha]
    · rw [if_pos rfl]
  have hh := xOp m.sp a.key
  rw [he, xJE]
  refine vcs vf156 ?_
  repeat first|refine sgo ?_|refine cv0 hh ?_|refine sop ?_
  refine xAC ⟨.inr rfl, ?_⟩
  exact oG []
theorem xPO (pk : Str) {a : FolL} {m : MsgL} (hm : MsgSz m) (hl : a.key.length ≤ 1000000) : VC Tryz.prog 159 [.ptr ⟨0, 0⟩ 1 0 0, .agg (encM m)] [bxF pk a] (.bool false) [bxF pk (if xAD a.key m.to = true then { a with key := m.fr ++ a.key.drop m.to.length } else a)] := by
  have hmv := xGQ a.key m.to m.fr (by omega) (by have := hm.to; omega) (by have := hm.fr; omega)
  unfold xD7 at hmv
  cases hb : xAD a.key m.to with
  | true =>
    rw [hb, if_pos rfl] at hmv
    rw [if_pos rfl]
    refine vcs vf159 ?_
    repeat first|refine sgo ?_|refine cv0 hmv ?_|refine sop ?_
    refine cndt ?_
    repeat first|refine sgo ?_|refine sop ?_
    refine xAC ⟨.inr rfl, ?_⟩
    exact oG []
  | false =>
    rw [hb, if_neg (by simp)] at hmv
    rw [if_neg (by simp)]
    refine vcs vf159 ?_
    repeat first|refine sgo ?_|refine cv0 hmv ?_|refine sop ?_
    refine cndf (xAB ?_)
    repeat first|refine sgo ?_|refine sop ?_
    refine xAC ⟨.inr rfl, ?_⟩
    exact oG []
theorem s5_vc (pk : Str) {a : FolL} {m : MsgL} (hm : MsgSz m) (hk : m.kind = 5) (ha : a.known = false) (hl : a.key.length ≤ 1000000) : VC Tryz.prog 159 [.ptr ⟨0, 0⟩ 1 0 0, .agg (encM m)] [bxF pk a] (.bool (xAl a m).known) [bxF pk (xAl a m)] := by
  have h := xPO pk (a := a) hm hl
  have he : xAl a m = if xAD a.key m.to = true then { a with key := m.fr ++ a.key.drop m.to.length } else a := by
    unfold xAl
    rw [if_neg (by omega), if_neg (by omega), if_neg (by omega), if_neg (by omega), if_neg (by omega)]
  have hkn : (xAl a m).known = false := by rw [he]; split <;> exact ha
  rw [hkn, he]
  exact h
theorem s4_vc (pk : Str) {a : FolL} {m : MsgL} (hm : MsgSz m) (hk : m.kind = 4) (ha : a.known = false) (hl : a.key.length ≤ 1000000) : VC Tryz.prog 157 [.ptr ⟨0, 0⟩ 1 0 0, .agg (encM m)] [bxF pk a] (.bool (xAl a m).known) [bxF pk (xAl a m)] := by
  have h := xPO pk (a := a) hm hl
  have hp := xMh a.key m.fr (by omega) (by have := hm.fr; omega)
  have he : xAl a m = if xAD a.key m.fr = true then { a with known := true } else if xAD a.key m.to = true then { a with key := m.fr ++ a.key.drop m.to.length } else a := by
    unfold xAl
    rw [if_neg (by omega), if_neg (by omega), if_neg (by omega), if_neg (by omega)]
    simp only [hk, true_and]
  cases hb : xAD a.key m.fr with
  | true =>
    rw [hb] at hp he
    rw [if_pos rfl] at he
    rw [he, xJE]
    refine vcs vf157 ?_
    repeat first|refine sgo ?_|refine cv0 hp ?_|refine sop ?_
    refine xAC ⟨.inr rfl, ?_⟩
    exact oG []
  | false =>
    rw [hb] at hp he
    rw [if_neg (by simp)] at he
    have hkn : (xAl a m).known = false := by rw [he]; split <;> exact ha
    rw [← he] at h
    rw [hkn]
    refine vcs vf157 ?_
    repeat first|refine sgo ?_|refine cv0 hp ?_|refine cl (lent := [⟨0, 0⟩]) h ?_|refine sop ?_
    refine xAC ⟨.inr rfl, ?_⟩
    exact oG []
theorem s6_vc (pk : Str) {a : FolL} (h1 : a.has = false) {m : MsgL} (hk : m.kind = 6) (ha : a.known = false) : VC Tryz.prog 160 [.ptr ⟨0, 0⟩ 1 0 0, .agg (encM m)] [bxF pk a] (.bool (xAl a m).known) [bxF pk (xAl a m)] := by
  have hst := xLV false false pk [] 0 a.key a.std a.st m.n
  have hh := xOp m.sp a.key
  have he : xAl a m = if hasL m.sp a.key = true then xBd a m.n else a := by
    unfold xAl
    rw [if_neg (by omega), if_neg (by omega), if_neg (by omega), if_pos hk]
  obtain ⟨e1, e2⟩ := xJT a m.n
  obtain ⟨e3, e4, e5, e6⟩ := xCi a m.n
  cases hc : hasL m.sp a.key with
  | true =>
    rw [hc] at hh he
    rw [if_pos rfl] at he
    have ef : bxF pk (xAl a m) = ⟨true, false, 8, [[.bool false, .bool false, .str pk, .str [], .int .i64 0, .str a.key, .bool true, .int .i64 (if a.std = true then a.st else m.n)]]⟩ := by
      rw [he]
      simp only [bxF, fC, e1, e2, e3, e5, h1, Bool.false_eq_true, if_false]
    have ek : (xAl a m).known = false := by rw [he, e4, ha]
    rw [ef, ek, bx_no pk h1]
    refine vcs vf160 ?_
    repeat first|refine sgo ?_|refine cv0 hh ?_|refine sop ?_
    refine cndt ?_
    repeat first|refine sgo ?_|refine cl (lent := [⟨0, 0⟩]) hst ?_|refine sop ?_
    refine xAC ⟨.inr rfl, ?_⟩
    exact oG []
  | false =>
    rw [hc] at hh he
    rw [if_neg (by simp)] at he
    rw [he, ha]
    refine vcs vf160 ?_
    repeat first|refine sgo ?_|refine cv0 hh ?_|refine sop ?_
    refine cndf (xAB ?_)
    repeat first|refine sgo ?_|refine sop ?_
    refine xAC ⟨.inr rfl, ?_⟩
    exact oG []
end Go.Proofs
open Go.V Go.Pu
set_option linter.unusedVariables false
set_option linter.unusedSimpArgs false
set_option maxRecDepth 20000
namespace Go.Proofs
def vc16 := vcm Tryz.prog 16
theorem vf16 : VF Tryz.prog 16 = some (32, vc16, [.cell true 8 4]) := by kernel_rfl
def vc25 := vcm Tryz.prog 25
theorem vf25 : VF Tryz.prog 25 = some (4, vc25, [.tmp 2]) := by kernel_rfl
def vc48 := vcm Tryz.prog 48
theorem vf48 : VF Tryz.prog 48 = some (19, vc48, []) := by kernel_rfl
abbrev xNF (f : FoundL) : List PV := [.bool f.known, .bool f.has, .str f.pair.key, .str f.pair.val, .int .i64 f.pair.stamp, .str f.key, .bool f.std, .int .i64 f.st]
theorem xMY {l : List MsgL} : VC Tryz.prog 25 [.sh false (l.map encM)] [] (.fn 48 [.ptr ⟨0, 0⟩ 1 0 0]) [⟨true, false, 1, [[.sh false (l.map encM)]]⟩] := by
  refine vcs vf25 ?_
  repeat first|refine sgo ?_|refine sop ?_
  refine xAC ⟨.inr rfl, ?_⟩
  exact oG [⟨1, 0⟩] (v' := .fn 48 [.ptr ⟨0, 0⟩ 1 0 0]) (hout' := [⟨true, false, 1, [[.sh false (l.map encM)]]⟩])
theorem xLc {l : List MsgL} {i : Nat} {m : MsgL} (h : l[i]? = some m) : (l.take (i + 1)).reverse = m :: (l.take i).reverse := by
  rw [List.take_add_one, h]
  simp
theorem xQt {f : FolL} {m : MsgL} {n b : Nat} (hm : MsgLen b m) (h : f.key.length ≤ n) : (xAl f m).key.length ≤ n + b := by
  have h2 := xCi f m.n
  have hf := hm.fr
  unfold xAl
  repeat' split
  all_goals first
    | (simp only [List.length_append, List.length_drop]; omega)
    | (rw [h2.1]; omega)
    | (simp only [h2.1]; omega)
    | (simp only; omega)
    | omega
abbrev KT : Tmps := [(4, .ptr ⟨0, 1000⟩ 1 0 0), (5, .ptr ⟨0, 1001⟩ 1 0 0), (13, .fn 48 [.ptr ⟨0, 1002⟩ 1 0 0])]
abbrev KH (l : List MsgL) (pk : Str) (a : FolL) : Heap := [(⟨0, 1000⟩, ⟨true, false, 8, [[.bool false, .bool false, .str [], .str [], .int .i64 0, .str [], .bool false, .int .i64 0]]⟩), (⟨0, 1001⟩, bxF pk a), (⟨0, 1002⟩, ⟨true, false, 1, [[.sh false (l.map encM)]]⟩)]
theorem xQu {a : FolL} {m : MsgL} (h : a.has = false) (hk : (xAl a m).known = false) (ha : a.known = false) : (xAl a m).has = false := by
  obtain ⟨_, _, e5, _⟩ := xCi a m.n
  unfold xAl at hk ⊢
  repeat' split
  all_goals first
    | (simp_all; done)
    | (rw [e5]; exact h)
    | exact h
set_option maxHeartbeats 8000000 in
theorem xQY {k : Str} {l : List MsgL} (hk : k.length ≤ 100000) (hl : l.length ≤ 100) (ho : ∀ m ∈ l, MsgOk m) (h8 : ∀ m ∈ l, MsgLen 60 m) : VC Tryz.prog 16 [.str k, .sh false (l.map encM)] [] (.agg (xNF (keyL k l))) [] := by
  have hml : (l.map encM).length = l.length := List.length_map _
  refine vcs vf16 ?_
  refine xBH (rg ?_)
  repeat first|refine xAm ?_|refine sop ?_
  refine nl ?_
  refine xBH (rg ?_)
  repeat first|refine xAm ?_|refine sop ?_
  refine nl ?_
  refine xB0 (lvl := 1) (fun _ => KT) (fun (_ : Unit) => KH l k (xAO (fol0 k) l.reverse)) (fun _ => (xAO (fol0 k) l.reverse).known = false) ?_ ?_
  · repeat first|refine sgo ?_|refine cf (xMY (l := l)) ?_|refine sop ?_
    refine rng (f := 48) (lvlI := 2) (T := KT) (H := KH l k (fol0 k))
      (((Imp.ren' (b := ⟨1, 0⟩) (c := ⟨0, 1000⟩) (by decide) (.inr rfl)).trans (Imp.ren' (b := ⟨1, 8224⟩) (c := ⟨0, 1001⟩) (by decide) (.inr rfl))).trans (Imp.ren' (b := ⟨1, 16392⟩) (c := ⟨0, 1002⟩) (by decide) (.inr rfl)) |>.trans xA7) vf48 ?_
    intro y
    refine xGA (xBL ?_)
    repeat first|refine sgo ?_|refine sop ?_
    refine xGY ?_
    refine xMU (fun (g : Nat × FolL) => [(0, .yld y), (1, .ptr ⟨0, 1002⟩ 1 0 0), (3, .int .i64 ((g.1 : Int) - 1))]) (fun g => KH l k g.2) (fun g => g.1)
      (fun g => g.1 ≤ l.length ∧ xAO g.2 (l.take g.1).reverse = xAO (fol0 k) l.reverse ∧ g.2.known = false ∧ g.2.has = false ∧ g.2.key.length + 60 * g.1 ≤ 200000)
      (l.length, fol0 k) (xA7 (h1 := by refine ⟨rfl, rfl, ?_, trivial⟩; exact congrArg (fun z => some (PV.int .i64 z)) (by simp))) ⟨Nat.le_refl _, by simp only [List.take_length], rfl, rfl, by simp only [fol0]; omega⟩ ?_
    rintro ⟨i, a⟩ ⟨hi, hv, ha, hh, hkl⟩
    dsimp only at hi hv ha hh hkl ⊢
    refine xGA (xBL ?_)
    repeat first|refine sgo ?_|refine sop ?_
    refine cnd (fun h => xAB ?_) (fun h => xAE ?_)
    · obtain ⟨j, rfl⟩ : ∃ j, i = j + 1 := ⟨i - 1, by have h' := of_decide_eq_true h; omega⟩
      obtain ⟨m, hx⟩ : ∃ m, l[j]? = some m := ⟨_, List.getElem?_eq_getElem (by omega)⟩
      have hxe := gm (enc := encM) (n := ((j + 1 : Nat) : Int) - 1) hx (by omega)
      have hlt2 : ((j + 1 : Nat) : Int) - 1 < ((l.map encM).length : Nat) := by omega
      have hge2 : 0 ≤ ((j + 1 : Nat) : Int) - 1 := by omega
      have hmem := List.mem_of_getElem? hx
      have hm8 := h8 m hmem
      have hmz : MsgSz m := ⟨(ho m hmem).k, by have := hm8.key; omega, by have := hm8.fr; omega, by have := hm8.to; omega⟩
      have hbl := xQt (f := a) hm8 (Nat.le_refl _)
      have hbh := xQu (m := m) hh
      rw [xLc hx, xA8 ha] at hv
      have g1 := fun h => s1_vc k hh (m := m) h ha
      have g2 := fun h => s2_vc k (a := a) (m := m) h ha
      have g3 := fun h => s3_vc k (a := a) (m := m) h ha
      have g4 := fun h => s4_vc k (a := a) hmz h ha (by omega)
      have g5 := fun h => s5_vc k (a := a) hmz h ha (by omega)
      have g6 := fun h => s6_vc k hh (m := m) h ha
      have hk6 := hmz.k
      clear hmz hm8 hmem h8 ho
      generalize xAl a m = a' at *
      obtain ⟨mk, m2, m3, m4, m5, m6, m7⟩ := m
      simp only at g1 g2 g3 g4 g5 g6 hk6
      refine xGA (xGY (xGA (xKR (xLX 6 ?_))))
      repeat first|refine sgo ?_|refine sop ?_
      refine yl (T := [(0, .yld y), (1, .ptr ⟨0, 1002⟩ 1 0 0), (3, .int .i64 (((j + 1 : Nat) : Int) - 1)), (11, .yld y), (12, .int .i64 (((j + 1 : Nat) : Int) - 1)), (16, .agg (encM ⟨mk, m2, m3, m4, m5, m6, m7⟩))]) (H := KH l k a) 3 xA7 ?_
      repeat first|refine sgo ?_|refine sop ?_
      refine ⟨rfl, ?_⟩
      obtain ⟨ak, akn, ah, av, asd, ast⟩ := a'
      rcases six hk6 with rfl | rfl | rfl | rfl | rfl | rfl
      · have gs := g1 rfl
        cases akn with
        | false =>
          have hh' : ah = false := hbh rfl ha
          subst hh'
          repeat first|refine sgo ?_|refine cl (lent := [⟨0, 1001⟩]) gs ?_|refine sop ?_
          refine cndt (xAB ?_)
          refine xA0 ?_
          repeat first|refine sgo ?_|refine sop ?_
          refine xCb (xBL (xAB ?_))
          refine xBL ?_
          repeat first|refine sgo ?_|refine sop ?_
          exact agL (j, ⟨ak, false, false, av, asd, ast⟩) ⟨by simp only; omega, hv, rfl, rfl, by simp only at hbl ⊢; omega⟩ (xA7 (h1 := by refine ⟨rfl, rfl, ?_, trivial⟩; exact congrArg (fun z => some (PV.int .i64 z)) (by simp only; omega)))
        | true =>
          rw [xAS rfl] at hv
          have hkl : keyL k l = xBn k ⟨ak, true, ah, av, asd, ast⟩ := by unfold keyL; rw [hv]
          rw [hkl]
          cases ah with
          | true =>
            repeat first|refine sgo ?_|refine cl (lent := [⟨0, 1001⟩]) gs ?_|refine sop ?_
            refine cndf ?_
            repeat first|refine sgo ?_|refine sop ?_
            refine cndt ?_
            repeat first|refine sgo ?_|refine sop ?_
            refine xAC ?_
            refine xA0 ?_
            repeat first|refine sgo ?_|refine sop ?_
            refine xCa (xBL (xAC ?_))
            exact ⟨.inr rfl, oAny rfl⟩
          | false =>
            repeat first|refine sgo ?_|refine cl (lent := [⟨0, 1001⟩]) gs ?_|refine sop ?_
            refine cndf ?_
            repeat first|refine sgo ?_|refine sop ?_
            refine cndf ?_
            repeat first|refine sgo ?_|refine sop ?_
            refine xAC ?_
            refine xA0 ?_
            repeat first|refine sgo ?_|refine sop ?_
            refine xCa (xBL (xAC ?_))
            exact ⟨.inr rfl, oAny rfl⟩
      · have gs := g2 rfl
        cases akn with
        | false =>
          have hh' : ah = false := hbh rfl ha
          subst hh'
          repeat first|refine sgo ?_|refine cl (lent := [⟨0, 1001⟩]) gs ?_|refine sop ?_
          refine cndt (xAB ?_)
          refine xA0 ?_
          repeat first|refine sgo ?_|refine sop ?_
          refine xCb (xBL (xAB ?_))
          refine xBL ?_
          repeat first|refine sgo ?_|refine sop ?_
          exact agL (j, ⟨ak, false, false, av, asd, ast⟩) ⟨by simp only; omega, hv, rfl, rfl, by simp only at hbl ⊢; omega⟩ (xA7 (h1 := by refine ⟨rfl, rfl, ?_, trivial⟩; exact congrArg (fun z => some (PV.int .i64 z)) (by simp only; omega)))
        | true =>
          rw [xAS rfl] at hv
          have hkl : keyL k l = xBn k ⟨ak, true, ah, av, asd, ast⟩ := by unfold keyL; rw [hv]
          rw [hkl]
          cases ah with
          | true =>
            repeat first|refine sgo ?_|refine cl (lent := [⟨0, 1001⟩]) gs ?_|refine sop ?_
            refine cndf ?_
            repeat first|refine sgo ?_|refine sop ?_
            refine cndt ?_
            repeat first|refine sgo ?_|refine sop ?_
            refine xAC ?_
            refine xA0 ?_
            repeat first|refine sgo ?_|refine sop ?_
            refine xCa (xBL (xAC ?_))
            exact ⟨.inr rfl, oAny rfl⟩
          | false =>
            repeat first|refine sgo ?_|refine cl (lent := [⟨0, 1001⟩]) gs ?_|refine sop ?_
            refine cndf ?_
            repeat first|refine sgo ?_|refine sop ?_
            refine cndf ?_
            repeat first|refine sgo ?_|refine sop ?_
            refine xAC ?_
            refine xA0 ?_
            repeat first|refine sgo ?_|refine sop ?_
            refine xCa (xBL (xAC ?_))
            exact ⟨.inr rfl, oAny rfl⟩
      · have gs := g3 rfl
        cases akn with
        | false =>
          have hh' : ah = false := hbh rfl ha
          subst hh'
          repeat first|refine sgo ?_|refine cl (lent := [⟨0, 1001⟩]) gs ?_|refine sop ?_
          refine cndt (xAB ?_)
          refine xA0 ?_
          repeat first|refine sgo ?_|refine sop ?_
          refine xCb (xBL (xAB ?_))
          refine xBL ?_
          repeat first|refine sgo ?_|refine sop ?_
          exact agL (j, ⟨ak, false, false, av, asd, ast⟩) ⟨by simp only; omega, hv, rfl, rfl, by simp only at hbl ⊢; omega⟩ (xA7 (h1 := by refine ⟨rfl, rfl, ?_, trivial⟩; exact congrArg (fun z => some (PV.int .i64 z)) (by simp only; omega)))
        | true =>
          rw [xAS rfl] at hv
          have hkl : keyL k l = xBn k ⟨ak, true, ah, av, asd, ast⟩ := by unfold keyL; rw [hv]
          rw [hkl]
          cases ah with
          | true =>
            repeat first|refine sgo ?_|refine cl (lent := [⟨0, 1001⟩]) gs ?_|refine sop ?_
            refine cndf ?_
            repeat first|refine sgo ?_|refine sop ?_
            refine cndt ?_
            repeat first|refine sgo ?_|refine sop ?_
            refine xAC ?_
            refine xA0 ?_
            repeat first|refine sgo ?_|refine sop ?_
            refine xCa (xBL (xAC ?_))
            exact ⟨.inr rfl, oAny rfl⟩
          | false =>
            repeat first|refine sgo ?_|refine cl (lent := [⟨0, 1001⟩]) gs ?_|refine sop ?_
            refine cndf ?_
            repeat first|refine sgo ?_|refine sop ?_
            refine cndf ?_
            repeat first|refine sgo ?_|refine sop ?_
            refine xAC ?_
            refine xA0 ?_
            repeat first|refine sgo ?_|refine sop ?_
            refine xCa (xBL (xAC ?_))
            exact ⟨.inr rfl, oAny rfl⟩
      · have gs := g4 rfl
        cases akn with
        | false =>
          have hh' : ah = false := hbh rfl ha
          subst hh'
          repeat first|refine sgo ?_|refine cl (lent := [⟨0, 1001⟩]) gs ?_|refine sop ?_
          refine cndt (xAB ?_)
          refine xA0 ?_
          repeat first|refine sgo ?_|refine sop ?_
          refine xCb (xBL (xAB ?_))
          refine xBL ?_
          repeat first|refine sgo ?_|refine sop ?_
          exact agL (j, ⟨ak, false, false, av, asd, ast⟩) ⟨by simp only; omega, hv, rfl, rfl, by simp only at hbl ⊢; omega⟩ (xA7 (h1 := by refine ⟨rfl, rfl, ?_, trivial⟩; exact congrArg (fun z => some (PV.int .i64 z)) (by simp only; omega)))
        | true =>
          rw [xAS rfl] at hv
          have hkl : keyL k l = xBn k ⟨ak, true, ah, av, asd, ast⟩ := by unfold keyL; rw [hv]
          rw [hkl]
          cases ah with
          | true =>
            repeat first|refine sgo ?_|refine cl (lent := [⟨0, 1001⟩]) gs ?_|refine sop ?_
            refine cndf ?_
            repeat first|refine sgo ?_|refine sop ?_
            refine cndt ?_
            repeat first|refine sgo ?_|refine sop ?_
            refine xAC ?_
            refine xA0 ?_
            repeat first|refine sgo ?_|refine sop ?_
            refine xCa (xBL (xAC ?_))
            exact ⟨.inr rfl, oAny rfl⟩
          | false =>
            repeat first|refine sgo ?_|refine cl (lent := [⟨0, 1001⟩]) gs ?_|refine sop ?_
            refine cndf ?_
            repeat first|refine sgo ?_|refine sop ?_
            refine cndf ?_
            repeat first|refine sgo ?_|refine sop ?_
            refine xAC ?_
            refine xA0 ?_
            repeat first|refine sgo ?_|refine sop ?_
            refine xCa (xBL (xAC ?_))
            exact ⟨.inr rfl, oAny rfl⟩
      · have gs := g5 rfl
        cases akn with
        | false =>
          have hh' : ah = false := hbh rfl ha
          subst hh'
          repeat first|refine sgo ?_|refine cl (lent := [⟨0, 1001⟩]) gs ?_|refine sop ?_
          refine cndt (xAB ?_)
          refine xA0 ?_
          repeat first|refine sgo ?_|refine sop ?_
          refine xCb (xBL (xAB ?_))
          refine xBL ?_
          repeat first|refine sgo ?_|refine sop ?_
          exact agL (j, ⟨ak, false, false, av, asd, ast⟩) ⟨by simp only; omega, hv, rfl, rfl, by simp only at hbl ⊢; omega⟩ (xA7 (h1 := by refine ⟨rfl, rfl, ?_, trivial⟩; exact congrArg (fun z => some (PV.int .i64 z)) (by simp only; omega)))
        | true =>
          rw [xAS rfl] at hv
          have hkl : keyL k l = xBn k ⟨ak, true, ah, av, asd, ast⟩ := by unfold keyL; rw [hv]
          rw [hkl]
          cases ah with
          | true =>
            repeat first|refine sgo ?_|refine cl (lent := [⟨0, 1001⟩]) gs ?_|refine sop ?_
            refine cndf ?_
            repeat first|refine sgo ?_|refine sop ?_
            refine cndt ?_
            repeat first|refine sgo ?_|refine sop ?_
            refine xAC ?_
            refine xA0 ?_
            repeat first|refine sgo ?_|refine sop ?_
            refine xCa (xBL (xAC ?_))
            exact ⟨.inr rfl, oAny rfl⟩
          | false =>
            repeat first|refine sgo ?_|refine cl (lent := [⟨0, 1001⟩]) gs ?_|refine sop ?_
            refine cndf ?_
            repeat first|refine sgo ?_|refine sop ?_
            refine cndf ?_
            repeat first|refine sgo ?_|refine sop ?_
            refine xAC ?_
            refine xA0 ?_
            repeat first|refine sgo ?_|refine sop ?_
            refine xCa (xBL (xAC ?_))
            exact ⟨.inr rfl, oAny rfl⟩
      · have gs := g6 rfl
        cases akn with
        | false =>
          have hh' : ah = false := hbh rfl ha
          subst hh'
          repeat first|refine sgo ?_|refine cl (lent := [⟨0, 1001⟩]) gs ?_|refine sop ?_
          refine cndt (xAB ?_)
          refine xA0 ?_
          repeat first|refine sgo ?_|refine sop ?_
          refine xCb (xBL (xAB ?_))
          refine xBL ?_
          repeat first|refine sgo ?_|refine sop ?_
          exact agL (j, ⟨ak, false, false, av, asd, ast⟩) ⟨by simp only; omega, hv, rfl, rfl, by simp only at hbl ⊢; omega⟩ (xA7 (h1 := by refine ⟨rfl, rfl, ?_, trivial⟩; exact congrArg (fun z => some (PV.int .i64 z)) (by simp only; omega)))
        | true =>
          rw [xAS rfl] at hv
          have hkl : keyL k l = xBn k ⟨ak, true, ah, av, asd, ast⟩ := by unfold keyL; rw [hv]
          rw [hkl]
          cases ah with
          | true =>
            repeat first|refine sgo ?_|refine cl (lent := [⟨0, 1001⟩]) gs ?_|refine sop ?_
            refine cndf ?_
            repeat first|refine sgo ?_|refine sop ?_
            refine cndt ?_
            repeat first|refine sgo ?_|refine sop ?_
            refine xAC ?_
            refine xA0 ?_
            repeat first|refine sgo ?_|refine sop ?_
            refine xCa (xBL (xAC ?_))
            exact ⟨.inr rfl, oAny rfl⟩
          | false =>
            repeat first|refine sgo ?_|refine cl (lent := [⟨0, 1001⟩]) gs ?_|refine sop ?_
            refine cndf ?_
            repeat first|refine sgo ?_|refine sop ?_
            refine cndf ?_
            repeat first|refine sgo ?_|refine sop ?_
            refine xAC ?_
            refine xA0 ?_
            repeat first|refine sgo ?_|refine sop ?_
            refine xCa (xBL (xAC ?_))
            exact ⟨.inr rfl, oAny rfl⟩
    · have hi0 : i = 0 := by have h' := of_decide_eq_false h; omega
      subst hi0
      have hv : a = xAO (fol0 k) l.reverse := hv
      rw [← hv]
      exact mid0 () ha xA7
  · intro _ hf
    have hkl : keyL k l = xBn k (xAO (fol0 k) l.reverse) := rfl
    have hfr := xEE l.reverse (fol0 k) rfl rfl rfl hf
    rw [hkl]
    generalize xAO (fol0 k) l.reverse = a at *
    obtain ⟨ak, akn, ah, av, asd, ast⟩ := a
    obtain ⟨h1, h2⟩ := hfr
    simp only at hf h1 h2
    subst hf; subst h1; subst h2
    repeat first|refine sgo ?_|refine sop ?_
    exact xAC ⟨.inr rfl, oAny rfl⟩
theorem xK0 {a b : Nat} {m : MsgL} (h : MsgLen a m) (hab : a ≤ b) : MsgLen b m := ⟨Nat.le_trans h.key hab, Nat.le_trans h.lo hab, Nat.le_trans h.hi hab, Nat.le_trans h.fr hab, Nat.le_trans h.to hab⟩
theorem xRR {k : Str} {l : List MsgL} (hk : k.length ≤ 100000) (hl : l.length ≤ 100) (ho : ∀ m ∈ l, MsgOk m) (h8 : ∀ m ∈ l, MsgLen 8 m) : VC Tryz.prog 16 [.str k, .sh false (l.map encM)] [] (.agg (xNF (keyL k l))) [] := xQY hk hl ho fun m hm => xK0 (h8 m hm) (by decide)
end Go.Proofs
open Go.V Go.Pu
set_option linter.unusedVariables false
set_option linter.unusedSimpArgs false
set_option maxRecDepth 20000
namespace Go.Proofs
def vc18 := vcm Tryz.prog 18
theorem vf18 : VF Tryz.prog 18 = some (29, vc18, [.cell true 3 6, .tmp 7]) := by kernel_rfl
abbrev encFo (f : FolL) : List PV := [.str f.key, .bool f.known, .bool f.has, .str f.val, .bool f.std, .int .i64 f.st]
theorem xPY (f : FoundL) (p : PairL) (has : Bool) : VC Tryz.prog 18 [.agg (xNF f), .agg (encP p), .bool has] [] (.tup [.agg (encP (xLP f p has).1), .bool (xLP f p has).2]) [] := by
  obtain ⟨kn, h, ⟨p1, p2, p3⟩, key, sd, st⟩ := f
  obtain ⟨q1, q2, q3⟩ := p
  cases kn with
  | true =>
    refine xCL vf18 ?_ (Nat.le_of_ble_eq_true rfl) (by intro vs h; cases h; simp)
    repeat first|refine sgo ?_|refine sop ?_
    refine cndt ?_
    repeat first|refine sgo ?_|refine sop ?_
    exact xAC ⟨.inr rfl, oAny rfl⟩
  | false =>
    cases has with
    | false =>
      refine xCL vf18 ?_ (Nat.le_of_ble_eq_true rfl) (by intro vs h; cases h; simp)
      repeat first|refine sgo ?_|refine sop ?_
      (first | refine cndf (xAB ?_) | refine cndf ?_)
      repeat first|refine sgo ?_|refine sop ?_
      refine cndt ?_
      repeat first|refine sgo ?_|refine sop ?_
      exact xAC ⟨.inr rfl, oAny rfl⟩
    | true =>
      cases sd with
      | true =>
        refine xCL vf18 ?_ (Nat.le_of_ble_eq_true rfl) (by intro vs h; cases h; simp)
        repeat first|refine sgo ?_|refine sop ?_
        (first | refine cndf (xAB ?_) | refine cndf ?_)
        repeat first|refine sgo ?_|refine sop ?_
        refine cndf (xAB ?_)
        repeat first|refine sgo ?_|refine sop ?_
        refine cndt ?_
        repeat first|refine sgo ?_|refine sop ?_
        exact xAC ⟨.inr rfl, oAny rfl⟩
      | false =>
        refine xCL vf18 ?_ (Nat.le_of_ble_eq_true rfl) (by intro vs h; cases h; simp)
        repeat first|refine sgo ?_|refine sop ?_
        (first | refine cndf (xAB ?_) | refine cndf ?_)
        repeat first|refine sgo ?_|refine sop ?_
        refine cndf (xAB ?_)
        repeat first|refine sgo ?_|refine sop ?_
        refine cndf (xAB ?_)
        repeat first|refine sgo ?_|refine sop ?_
        exact xAC ⟨.inr rfl, oAny rfl⟩
end Go.Proofs
