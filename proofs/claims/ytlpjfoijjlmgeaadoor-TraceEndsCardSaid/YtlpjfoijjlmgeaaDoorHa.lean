/- Ha -/
import Derived.Test.YtlpjfoijjlmgeaaDoorMa
import Derived.Test.YtlpjfoijjlmgeaaDoorPu
import Derived.Test.YtlpjfoijjlmgeaaDoorTa
open Go.V Go.Pu
set_option linter.unusedVariables false
set_option linter.unusedSimpArgs false
set_option maxRecDepth 20000
namespace Go.Proofs
def vc113 := vcm Tryd.prog 113
theorem vf113 : VF Tryd.prog 113 = some (33, vc113, [.tmp 4]) := by kernel_rfl
def vc114 := vcm Tryd.prog 114
theorem vf114 : VF Tryd.prog 114 = some (16, vc114, []) := by kernel_rfl
def vc115 := vcm Tryd.prog 115
theorem vf115 : VF Tryd.prog 115 = some (12, vc115, [.tmp 4]) := by kernel_rfl
def vc116 := vcm Tryd.prog 116
theorem vf116 : VF Tryd.prog 116 = some (12, vc116, [.tmp 4]) := by kernel_rfl
def vc118 := vcm Tryd.prog 118
theorem vf118 : VF Tryd.prog 118 = some (17, vc118, [.tmp 4]) := by kernel_rfl
def vc119 := vcm Tryd.prog 119
theorem vf119 : VF Tryd.prog 119 = some (8, vc119, [.tmp 4]) := by kernel_rfl
def vc120 := vcm Tryd.prog 120
theorem vf120 : VF Tryd.prog 120 = some (24, vc120, [.tmp 4]) := by kernel_rfl
def vc121 := vcm Tryd.prog 121
theorem vf121 : VF Tryd.prog 121 = some (16, vc121, [.tmp 4]) := by kernel_rfl
abbrev fC (pk : Str) (a : FolL) : List PV := [.bool false, .bool a.has, .str pk, .str (if a.has = true then a.val else []), .int .i64 (if a.has = true then a.st else 0), .str a.key, .bool a.std, .int .i64 a.st]
abbrev bxF (pk : Str) (a : FolL) : Blk := ⟨true, false, 8, [fC pk a]⟩
theorem xMy (k p : Str) (hk : k.length ≤ 1000000000) (hp : p.length ≤ 1000000000) : VC Tryd.prog 119 [.str k, .str p] [] (.bool (xAD k p)) [] := by
  have h := xEC k p hk hp
  refine vcs vf119 ?_
  repeat first|refine sgo ?_|refine cv0 h ?_|refine sop ?_
  exact xAC ⟨.inr rfl, oAny rfl⟩
theorem xLx (b0 b1 : Bool) (s2 s3 : Str) (n4 : Int) (s5 : Str) (sd : Bool) (st n : Int) :
    VC Tryd.prog 114 [.ptr ⟨0, 0⟩ 1 0 0, .int .i64 n] [⟨true, false, 8, [[.bool b0, .bool b1, .str s2, .str s3, .int .i64 n4, .str s5, .bool sd, .int .i64 st]]⟩] (.tup []) [⟨true, false, 8, [[.bool b0, .bool b1, .str s2, .str s3, .int .i64 n4, .str s5, .bool true, .int .i64 (if sd = true then st else n)]]⟩] := by
  cases sd
  · refine xCC vf114 ?_ (Nat.le_of_ble_eq_true rfl) (by intro vs h; cases h; simp)
    repeat first|refine sgo ?_|refine sop ?_
    refine cndt ?_
    repeat first|refine sgo ?_|refine sop ?_
    exact ⟨.inl rfl, oG []⟩
  · refine xCC vf114 ?_ (Nat.le_of_ble_eq_true rfl) (by intro vs h; cases h; simp)
    repeat first|refine sgo ?_|refine sop ?_
    refine cndf (xAA ?_)
    exact ⟨.inl rfl, oG []⟩
theorem xJ0 (f : FolL) (n : Int) : (xBZ f n).std = true ∧ (xBZ f n).st = if f.std = true then f.st else n := by
  unfold xBZ
  split <;> simp [*]
theorem xJn (pk : Str) (a : FolL) (b : Bool) : bxF pk { a with known := b } = bxF pk a := rfl
theorem bx_no (pk : Str) {a : FolL} (h : a.has = false) : bxF pk a = ⟨true, false, 8, [[.bool false, .bool false, .str pk, .str [], .int .i64 0, .str a.key, .bool a.std, .int .i64 a.st]]⟩ := by
  simp only [bxF, fC, h, Bool.false_eq_true, if_false]
theorem s1_vc (pk : Str) {a : FolL} (h1 : a.has = false) {m : MsgL} (hk : m.kind = 1) (ha : a.known = false) : VC Tryd.prog 113 [.ptr ⟨0, 0⟩ 1 0 0, .agg (encM m)] [bxF pk a] (.bool (xAe a m).known) [bxF pk (xAe a m)] := by
  have hst := xLx false false pk [] 0 a.key a.std a.st m.n
  have he : xAe a m = if m.key = a.key then { xBZ a m.n with known := true, has := true, val := m.val } else a := by unfold xAe; rw [if_pos hk]
  obtain ⟨e1, e2⟩ := xJ0 a m.n
  obtain ⟨e3, _⟩ := xCg a m.n
  cases hc : (m.key == a.key) with
  | true =>
    have hc' : m.key = a.key := by simpa using hc
    have hn : (!(m.key == a.key)) = false := by rw [hc]; rfl
    have ef : bxF pk (xAe a m) = ⟨true, false, 8, [[.bool false, .bool true, .str pk, .str m.val, .int .i64 (if a.std = true then a.st else m.n), .str a.key, .bool true, .int .i64 (if a.std = true then a.st else m.n)]]⟩ := by
      rw [he, if_pos hc']
      simp only [bxF, fC, if_true, e1, e2, e3]
    have ek : (xAe a m).known = true := by rw [he, if_pos hc']
    rw [ef, ek, bx_no pk h1]
    refine vcs vf113 ?_
    repeat first|refine sgo ?_|refine sop ?_
    refine cndf (xAA ?_)
    repeat first|refine sgo ?_|refine cl (lent := [⟨0, 0⟩]) hst ?_|refine sop ?_
    refine xAC ⟨.inr rfl, ?_⟩
    exact oG []
  | false =>
    have hc' : ¬ m.key = a.key := by simpa using hc
    have hn : (!(m.key == a.key)) = true := by rw [hc]; rfl
    have ee : xAe a m = a := by rw [he, if_neg hc']
    rw [ee, ha]
    refine vcs vf113 ?_
    repeat first|refine sgo ?_|refine sop ?_
    refine cndt ?_
    repeat first|refine sgo ?_|refine sop ?_
    refine xAC ⟨.inr rfl, ?_⟩
    exact oG []
theorem s2_vc (pk : Str) {a : FolL} {m : MsgL} (hk : m.kind = 2) (ha : a.known = false) : VC Tryd.prog 115 [.ptr ⟨0, 0⟩ 1 0 0, .agg (encM m)] [bxF pk a] (.bool (xAe a m).known) [bxF pk (xAe a m)] := by
  have he : xAe a m = { a with known := m.key == a.key } := by
    unfold xAe
    rw [if_neg (by omega), if_pos hk]
    cases hc : (m.key == a.key)
    · rw [if_neg (by simpa using hc), ← ha]
    · rw [if_pos (by simpa using hc)]
  rw [he, xJn]
  refine vcs vf115 ?_
  repeat first|refine sgo ?_|refine sop ?_
  refine xAC ⟨.inr rfl, ?_⟩
  exact oG []
theorem s3_vc (pk : Str) {a : FolL} {m : MsgL} (hk : m.kind = 3) (ha : a.known = false) : VC Tryd.prog 116 [.ptr ⟨0, 0⟩ 1 0 0, .agg (encM m)] [bxF pk a] (.bool (xAe a m).known) [bxF pk (xAe a m)] := by
  have he : xAe a m = { a with known := hasL m.sp a.key } := by
    unfold xAe
    rw [if_neg (by omega), if_neg (by omega), if_pos hk]
    cases hc : hasL m.sp a.key
    · rw [if_neg (by simp), ← ha]
    · rw [if_pos rfl]
  have hh := xRO m.sp a.key
  rw [he, xJn]
  refine vcs vf116 ?_
  repeat first|refine sgo ?_|refine cv0 hh ?_|refine sop ?_
  refine xAC ⟨.inr rfl, ?_⟩
  exact oG []
theorem xPT (pk : Str) {a : FolL} {m : MsgL} (hm : MsgSz m) (hl : a.key.length ≤ 1000000) : VC Tryd.prog 120 [.ptr ⟨0, 0⟩ 1 0 0, .agg (encM m)] [bxF pk a] (.bool false) [bxF pk (if xAD a.key m.to = true then { a with key := m.fr ++ a.key.drop m.to.length } else a)] := by
  have hmv := xJO a.key m.to m.fr (by omega) (by have := hm.to; omega) (by have := hm.fr; omega)
  unfold xCu at hmv
  cases hb : xAD a.key m.to with
  | true =>
    rw [hb, if_pos rfl] at hmv
    rw [if_pos rfl]
    refine vcs vf120 ?_
    repeat first|refine sgo ?_|refine cv0 hmv ?_|refine sop ?_
    refine cndt ?_
    repeat first|refine sgo ?_|refine sop ?_
    refine xAC ⟨.inr rfl, ?_⟩
    exact oG []
  | false =>
    rw [hb, if_neg (by simp)] at hmv
    rw [if_neg (by simp)]
    refine vcs vf120 ?_
    repeat first|refine sgo ?_|refine cv0 hmv ?_|refine sop ?_
    refine cndf (xAA ?_)
    repeat first|refine sgo ?_|refine sop ?_
    refine xAC ⟨.inr rfl, ?_⟩
    exact oG []
theorem s5_vc (pk : Str) {a : FolL} {m : MsgL} (hm : MsgSz m) (hk : m.kind = 5) (ha : a.known = false) (hl : a.key.length ≤ 1000000) : VC Tryd.prog 120 [.ptr ⟨0, 0⟩ 1 0 0, .agg (encM m)] [bxF pk a] (.bool (xAe a m).known) [bxF pk (xAe a m)] := by
  have h := xPT pk (a := a) hm hl
  have he : xAe a m = if xAD a.key m.to = true then { a with key := m.fr ++ a.key.drop m.to.length } else a := by
    unfold xAe
    rw [if_neg (by omega), if_neg (by omega), if_neg (by omega), if_neg (by omega), if_neg (by omega)]
  have hkn : (xAe a m).known = false := by rw [he]; split <;> exact ha
  rw [hkn, he]
  exact h
theorem s4_vc (pk : Str) {a : FolL} {m : MsgL} (hm : MsgSz m) (hk : m.kind = 4) (ha : a.known = false) (hl : a.key.length ≤ 1000000) : VC Tryd.prog 118 [.ptr ⟨0, 0⟩ 1 0 0, .agg (encM m)] [bxF pk a] (.bool (xAe a m).known) [bxF pk (xAe a m)] := by
  have h := xPT pk (a := a) hm hl
  have hp := xMy a.key m.fr (by omega) (by have := hm.fr; omega)
  have he : xAe a m = if xAD a.key m.fr = true then { a with known := true } else if xAD a.key m.to = true then { a with key := m.fr ++ a.key.drop m.to.length } else a := by
    unfold xAe
    rw [if_neg (by omega), if_neg (by omega), if_neg (by omega), if_neg (by omega)]
    simp only [hk, true_and]
  cases hb : xAD a.key m.fr with
  | true =>
    rw [hb] at hp he
    rw [if_pos rfl] at he
    rw [he, xJn]
    refine vcs vf118 ?_
    repeat first|refine sgo ?_|refine cv0 hp ?_|refine sop ?_
    refine xAC ⟨.inr rfl, ?_⟩
    exact oG []
  | false =>
    rw [hb] at hp he
    rw [if_neg (by simp)] at he
    have hkn : (xAe a m).known = false := by rw [he]; split <;> exact ha
    rw [← he] at h
    rw [hkn]
    refine vcs vf118 ?_
    repeat first|refine sgo ?_|refine cv0 hp ?_|refine cl (lent := [⟨0, 0⟩]) h ?_|refine sop ?_
    refine xAC ⟨.inr rfl, ?_⟩
    exact oG []
theorem s6_vc (pk : Str) {a : FolL} (h1 : a.has = false) {m : MsgL} (hk : m.kind = 6) (ha : a.known = false) : VC Tryd.prog 121 [.ptr ⟨0, 0⟩ 1 0 0, .agg (encM m)] [bxF pk a] (.bool (xAe a m).known) [bxF pk (xAe a m)] := by
  have hst := xLx false false pk [] 0 a.key a.std a.st m.n
  have hh := xRO m.sp a.key
  have he : xAe a m = if hasL m.sp a.key = true then xBZ a m.n else a := by
    unfold xAe
    rw [if_neg (by omega), if_neg (by omega), if_neg (by omega), if_pos hk]
  obtain ⟨e1, e2⟩ := xJ0 a m.n
  obtain ⟨e3, e4, e5, e6⟩ := xCg a m.n
  cases hc : hasL m.sp a.key with
  | true =>
    rw [hc] at hh he
    rw [if_pos rfl] at he
    have ef : bxF pk (xAe a m) = ⟨true, false, 8, [[.bool false, .bool false, .str pk, .str [], .int .i64 0, .str a.key, .bool true, .int .i64 (if a.std = true then a.st else m.n)]]⟩ := by
      rw [he]
      simp only [bxF, fC, e1, e2, e3, e5, h1, Bool.false_eq_true, if_false]
    have ek : (xAe a m).known = false := by rw [he, e4, ha]
    rw [ef, ek, bx_no pk h1]
    refine vcs vf121 ?_
    repeat first|refine sgo ?_|refine cv0 hh ?_|refine sop ?_
    refine cndt ?_
    repeat first|refine sgo ?_|refine cl (lent := [⟨0, 0⟩]) hst ?_|refine sop ?_
    refine xAC ⟨.inr rfl, ?_⟩
    exact oG []
  | false =>
    rw [hc] at hh he
    rw [if_neg (by simp)] at he
    rw [he, ha]
    refine vcs vf121 ?_
    repeat first|refine sgo ?_|refine cv0 hh ?_|refine sop ?_
    refine cndf (xAA ?_)
    repeat first|refine sgo ?_|refine sop ?_
    refine xAC ⟨.inr rfl, ?_⟩
    exact oG []
end Go.Proofs
open Go.V Go.Pu
set_option linter.unusedVariables false
set_option linter.unusedSimpArgs false
set_option maxRecDepth 20000
namespace Go.Proofs
def vc16 := vcm Tryd.prog 16
theorem vf16 : VF Tryd.prog 16 = some (32, vc16, [.cell true 8 4]) := by kernel_rfl
def vc31 := vcm Tryd.prog 31
theorem vf31 : VF Tryd.prog 31 = some (4, vc31, [.tmp 2]) := by kernel_rfl
def vc52 := vcm Tryd.prog 52
theorem vf52 : VF Tryd.prog 52 = some (19, vc52, []) := by kernel_rfl
abbrev xHu (f : FoundL) : List PV := [.bool f.known, .bool f.has, .str f.pair.key, .str f.pair.val, .int .i64 f.pair.stamp, .str f.key, .bool f.std, .int .i64 f.st]
theorem xMp {l : List MsgL} : VC Tryd.prog 31 [.sh false (l.map encM)] [] (.fn 52 [.ptr ⟨0, 0⟩ 1 0 0]) [⟨true, false, 1, [[.sh false (l.map encM)]]⟩] := by
  refine vcs vf31 ?_
  repeat first|refine sgo ?_|refine sop ?_
  refine xAC ⟨.inr rfl, ?_⟩
  exact oG [⟨1, 0⟩] (v' := .fn 52 [.ptr ⟨0, 0⟩ 1 0 0]) (hout' := [⟨true, false, 1, [[.sh false (l.map encM)]]⟩])
theorem xJA {l : List MsgL} {i : Nat} {m : MsgL} (h : l[i]? = some m) : (l.take (i + 1)).reverse = m :: (l.take i).reverse := by
  rw [List.take_add_one, h]
  simp
theorem xJo {f : FolL} {m : MsgL} {n b : Nat} (hm : MsgLen b m) (h : f.key.length ≤ n) : (xAe f m).key.length ≤ n + b := by
  have h2 := xCg f m.n
  have hf := hm.fr
  unfold xAe
  repeat' split
  all_goals first
    | (simp only [List.length_append, List.length_drop]; omega)
    | (rw [h2.1]; omega)
    | (simp only [h2.1]; omega)
    | (simp only; omega)
    | omega
abbrev KT : Tmps := [(4, .ptr ⟨0, 1000⟩ 1 0 0), (5, .ptr ⟨0, 1001⟩ 1 0 0), (13, .fn 52 [.ptr ⟨0, 1002⟩ 1 0 0])]
abbrev KH (l : List MsgL) (pk : Str) (a : FolL) : Heap := [(⟨0, 1000⟩, ⟨true, false, 8, [[.bool false, .bool false, .str [], .str [], .int .i64 0, .str [], .bool false, .int .i64 0]]⟩), (⟨0, 1001⟩, bxF pk a), (⟨0, 1002⟩, ⟨true, false, 1, [[.sh false (l.map encM)]]⟩)]
theorem xQy {a : FolL} {m : MsgL} (h : a.has = false) (hk : (xAe a m).known = false) (ha : a.known = false) : (xAe a m).has = false := by
  obtain ⟨_, _, e5, _⟩ := xCg a m.n
  unfold xAe at hk ⊢
  repeat' split
  all_goals first
    | (simp_all; done)
    | (rw [e5]; exact h)
    | exact h
set_option maxHeartbeats 8000000 in
theorem xMV {k : Str} {l : List MsgL} (hk : k.length ≤ 100000) (hl : l.length ≤ 100) (ho : ∀ m ∈ l, MsgOk m) (h8 : ∀ m ∈ l, MsgLen 60 m) : VC Tryd.prog 16 [.str k, .sh false (l.map encM)] [] (.agg (xHu (keyL k l))) [] := by
  have hml : (l.map encM).length = l.length := List.length_map _
  refine vcs vf16 ?_
  refine xA9 (rg ?_)
  repeat first|refine xAX ?_|refine sop ?_
  refine nl ?_
  refine xA9 (rg ?_)
  repeat first|refine xAX ?_|refine sop ?_
  refine nl ?_
  refine xCA (lvl := 1) (fun _ => KT) (fun (_ : Unit) => KH l k (xAN (fol0 k) l.reverse)) (fun _ => (xAN (fol0 k) l.reverse).known = false) ?_ ?_
  · repeat first|refine sgo ?_|refine cf (xMp (l := l)) ?_|refine sop ?_
    refine rng (f := 52) (lvlI := 2) (T := KT) (H := KH l k (fol0 k))
      (((Imp.ren' (b := ⟨1, 0⟩) (c := ⟨0, 1000⟩) (by decide) (.inr rfl)).trans (Imp.ren' (b := ⟨1, 8224⟩) (c := ⟨0, 1001⟩) (by decide) (.inr rfl))).trans (Imp.ren' (b := ⟨1, 16392⟩) (c := ⟨0, 1002⟩) (by decide) (.inr rfl)) |>.trans xAT) vf52 ?_
    intro y
    refine xGG (xBM ?_)
    repeat first|refine sgo ?_|refine sop ?_
    refine xGe ?_
    refine xMl (fun (g : Nat × FolL) => [(0, .yld y), (1, .ptr ⟨0, 1002⟩ 1 0 0), (3, .int .i64 ((g.1 : Int) - 1))]) (fun g => KH l k g.2) (fun g => g.1)
      (fun g => g.1 ≤ l.length ∧ xAN g.2 (l.take g.1).reverse = xAN (fol0 k) l.reverse ∧ g.2.known = false ∧ g.2.has = false ∧ g.2.key.length + 60 * g.1 ≤ 200000)
      (l.length, fol0 k) (xAT (h1 := by refine ⟨rfl, rfl, ?_, trivial⟩; exact congrArg (fun z => some (PV.int .i64 z)) (by simp))) ⟨Nat.le_refl _, by simp only [List.take_length], rfl, rfl, by simp only [fol0]; omega⟩ ?_
    rintro ⟨i, a⟩ ⟨hi, hv, ha, hh, hkl⟩
    dsimp only at hi hv ha hh hkl ⊢
    refine xGG (xBM ?_)
    repeat first|refine sgo ?_|refine sop ?_
    refine cnd (fun h => xAA ?_) (fun h => xAF ?_)
    · obtain ⟨j, rfl⟩ : ∃ j, i = j + 1 := ⟨i - 1, by have h' := of_decide_eq_true h; omega⟩
      obtain ⟨m, hx⟩ : ∃ m, l[j]? = some m := ⟨_, List.getElem?_eq_getElem (by omega)⟩
      have hxe := gm (enc := encM) (n := ((j + 1 : Nat) : Int) - 1) hx (by omega)
      have hlt2 : ((j + 1 : Nat) : Int) - 1 < ((l.map encM).length : Nat) := by omega
      have hge2 : 0 ≤ ((j + 1 : Nat) : Int) - 1 := by omega
      have hmem := List.mem_of_getElem? hx
      have hm8 := h8 m hmem
      have hmz : MsgSz m := ⟨(ho m hmem).k, by have := hm8.key; omega, by have := hm8.fr; omega, by have := hm8.to; omega⟩
      have hbl := xJo (f := a) hm8 (Nat.le_refl _)
      have hbh := xQy (m := m) hh
      rw [xJA hx, xAv ha] at hv
      have g1 := fun h => s1_vc k hh (m := m) h ha
      have g2 := fun h => s2_vc k (a := a) (m := m) h ha
      have g3 := fun h => s3_vc k (a := a) (m := m) h ha
      have g4 := fun h => s4_vc k (a := a) hmz h ha (by omega)
      have g5 := fun h => s5_vc k (a := a) hmz h ha (by omega)
      have g6 := fun h => s6_vc k hh (m := m) h ha
      have hk6 := hmz.k
      clear hmz hm8 hmem h8 ho
      generalize xAe a m = a' at *
      obtain ⟨mk, m2, m3, m4, m5, m6, m7⟩ := m
      simp only at g1 g2 g3 g4 g5 g6 hk6
      refine xGG (xGe (xGG (xKv (xLy 6 ?_))))
      repeat first|refine sgo ?_|refine sop ?_
      refine yl (T := [(0, .yld y), (1, .ptr ⟨0, 1002⟩ 1 0 0), (3, .int .i64 (((j + 1 : Nat) : Int) - 1)), (11, .yld y), (12, .int .i64 (((j + 1 : Nat) : Int) - 1)), (16, .agg (encM ⟨mk, m2, m3, m4, m5, m6, m7⟩))]) (H := KH l k a) 3 xAT ?_
      repeat first|refine sgo ?_|refine sop ?_
      refine ⟨rfl, ?_⟩
      obtain ⟨ak, akn, ah, av, asd, ast⟩ := a'
      rcases six hk6 with rfl | rfl | rfl | rfl | rfl | rfl
      · have gs := g1 rfl
        cases akn with
        | false =>
          have hh' : ah = false := hbh rfl ha
          subst hh'
          repeat first|refine sgo ?_|refine cl (lent := [⟨0, 1001⟩]) gs ?_|refine sop ?_
          refine cndt (xAA ?_)
          refine xA0 ?_
          repeat first|refine sgo ?_|refine sop ?_
          refine xCZ (xBM (xAA ?_))
          refine xBM ?_
          repeat first|refine sgo ?_|refine sop ?_
          exact agL (j, ⟨ak, false, false, av, asd, ast⟩) ⟨by simp only; omega, hv, rfl, rfl, by simp only at hbl ⊢; omega⟩ (xAT (h1 := by refine ⟨rfl, rfl, ?_, trivial⟩; exact congrArg (fun z => some (PV.int .i64 z)) (by simp only; omega)))
        | true =>
          rw [xAP rfl] at hv
          have hkl : keyL k l = xBz k ⟨ak, true, ah, av, asd, ast⟩ := by unfold keyL; rw [hv]
          rw [hkl]
          cases ah with
          | true =>
            repeat first|refine sgo ?_|refine cl (lent := [⟨0, 1001⟩]) gs ?_|refine sop ?_
            refine cndf ?_
            repeat first|refine sgo ?_|refine sop ?_
            refine cndt ?_
            repeat first|refine sgo ?_|refine sop ?_
            refine xAC ?_
            refine xA0 ?_
            repeat first|refine sgo ?_|refine sop ?_
            refine xCY (xBM (xAC ?_))
            exact ⟨.inr rfl, oAny rfl⟩
          | false =>
            repeat first|refine sgo ?_|refine cl (lent := [⟨0, 1001⟩]) gs ?_|refine sop ?_
            refine cndf ?_
            repeat first|refine sgo ?_|refine sop ?_
            refine cndf ?_
            repeat first|refine sgo ?_|refine sop ?_
            refine xAC ?_
            refine xA0 ?_
            repeat first|refine sgo ?_|refine sop ?_
            refine xCY (xBM (xAC ?_))
            exact ⟨.inr rfl, oAny rfl⟩
      · have gs := g2 rfl
        cases akn with
        | false =>
          have hh' : ah = false := hbh rfl ha
          subst hh'
          repeat first|refine sgo ?_|refine cl (lent := [⟨0, 1001⟩]) gs ?_|refine sop ?_
          refine cndt (xAA ?_)
          refine xA0 ?_
          repeat first|refine sgo ?_|refine sop ?_
          refine xCZ (xBM (xAA ?_))
          refine xBM ?_
          repeat first|refine sgo ?_|refine sop ?_
          exact agL (j, ⟨ak, false, false, av, asd, ast⟩) ⟨by simp only; omega, hv, rfl, rfl, by simp only at hbl ⊢; omega⟩ (xAT (h1 := by refine ⟨rfl, rfl, ?_, trivial⟩; exact congrArg (fun z => some (PV.int .i64 z)) (by simp only; omega)))
        | true =>
          rw [xAP rfl] at hv
          have hkl : keyL k l = xBz k ⟨ak, true, ah, av, asd, ast⟩ := by unfold keyL; rw [hv]
          rw [hkl]
          cases ah with
          | true =>
            repeat first|refine sgo ?_|refine cl (lent := [⟨0, 1001⟩]) gs ?_|refine sop ?_
            refine cndf ?_
            repeat first|refine sgo ?_|refine sop ?_
            refine cndt ?_
            repeat first|refine sgo ?_|refine sop ?_
            refine xAC ?_
            refine xA0 ?_
            repeat first|refine sgo ?_|refine sop ?_
            refine xCY (xBM (xAC ?_))
            exact ⟨.inr rfl, oAny rfl⟩
          | false =>
            repeat first|refine sgo ?_|refine cl (lent := [⟨0, 1001⟩]) gs ?_|refine sop ?_
            refine cndf ?_
            repeat first|refine sgo ?_|refine sop ?_
            refine cndf ?_
            repeat first|refine sgo ?_|refine sop ?_
            refine xAC ?_
            refine xA0 ?_
            repeat first|refine sgo ?_|refine sop ?_
            refine xCY (xBM (xAC ?_))
            exact ⟨.inr rfl, oAny rfl⟩
      · have gs := g3 rfl
        cases akn with
        | false =>
          have hh' : ah = false := hbh rfl ha
          subst hh'
          repeat first|refine sgo ?_|refine cl (lent := [⟨0, 1001⟩]) gs ?_|refine sop ?_
          refine cndt (xAA ?_)
          refine xA0 ?_
          repeat first|refine sgo ?_|refine sop ?_
          refine xCZ (xBM (xAA ?_))
          refine xBM ?_
          repeat first|refine sgo ?_|refine sop ?_
          exact agL (j, ⟨ak, false, false, av, asd, ast⟩) ⟨by simp only; omega, hv, rfl, rfl, by simp only at hbl ⊢; omega⟩ (xAT (h1 := by refine ⟨rfl, rfl, ?_, trivial⟩; exact congrArg (fun z => some (PV.int .i64 z)) (by simp only; omega)))
        | true =>
          rw [xAP rfl] at hv
          have hkl : keyL k l = xBz k ⟨ak, true, ah, av, asd, ast⟩ := by unfold keyL; rw [hv]
          rw [hkl]
          cases ah with
          | true =>
            repeat first|refine sgo ?_|refine cl (lent := [⟨0, 1001⟩]) gs ?_|refine sop ?_
            refine cndf ?_
            repeat first|refine sgo ?_|refine sop ?_
            refine cndt ?_
            repeat first|refine sgo ?_|refine sop ?_
            refine xAC ?_
            refine xA0 ?_
            repeat first|refine sgo ?_|refine sop ?_
            refine xCY (xBM (xAC ?_))
            exact ⟨.inr rfl, oAny rfl⟩
          | false =>
            repeat first|refine sgo ?_|refine cl (lent := [⟨0, 1001⟩]) gs ?_|refine sop ?_
            refine cndf ?_
            repeat first|refine sgo ?_|refine sop ?_
            refine cndf ?_
            repeat first|refine sgo ?_|refine sop ?_
            refine xAC ?_
            refine xA0 ?_
            repeat first|refine sgo ?_|refine sop ?_
            refine xCY (xBM (xAC ?_))
            exact ⟨.inr rfl, oAny rfl⟩
      · have gs := g4 rfl
        cases akn with
        | false =>
          have hh' : ah = false := hbh rfl ha
          subst hh'
          repeat first|refine sgo ?_|refine cl (lent := [⟨0, 1001⟩]) gs ?_|refine sop ?_
          refine cndt (xAA ?_)
          refine xA0 ?_
          repeat first|refine sgo ?_|refine sop ?_
          refine xCZ (xBM (xAA ?_))
          refine xBM ?_
          repeat first|refine sgo ?_|refine sop ?_
          exact agL (j, ⟨ak, false, false, av, asd, ast⟩) ⟨by simp only; omega, hv, rfl, rfl, by simp only at hbl ⊢; omega⟩ (xAT (h1 := by refine ⟨rfl, rfl, ?_, trivial⟩; exact congrArg (fun z => some (PV.int .i64 z)) (by simp only; omega)))
        | true =>
          rw [xAP rfl] at hv
          have hkl : keyL k l = xBz k ⟨ak, true, ah, av, asd, ast⟩ := by unfold keyL; rw [hv]
          rw [hkl]
          cases ah with
          | true =>
            repeat first|refine sgo ?_|refine cl (lent := [⟨0, 1001⟩]) gs ?_|refine sop ?_
            refine cndf ?_
            repeat first|refine sgo ?_|refine sop ?_
            refine cndt ?_
            repeat first|refine sgo ?_|refine sop ?_
            refine xAC ?_
            refine xA0 ?_
            repeat first|refine sgo ?_|refine sop ?_
            refine xCY (xBM (xAC ?_))
            exact ⟨.inr rfl, oAny rfl⟩
          | false =>
            repeat first|refine sgo ?_|refine cl (lent := [⟨0, 1001⟩]) gs ?_|refine sop ?_
            refine cndf ?_
            repeat first|refine sgo ?_|refine sop ?_
            refine cndf ?_
            repeat first|refine sgo ?_|refine sop ?_
            refine xAC ?_
            refine xA0 ?_
            repeat first|refine sgo ?_|refine sop ?_
            refine xCY (xBM (xAC ?_))
            exact ⟨.inr rfl, oAny rfl⟩
      · have gs := g5 rfl
        cases akn with
        | false =>
          have hh' : ah = false := hbh rfl ha
          subst hh'
          repeat first|refine sgo ?_|refine cl (lent := [⟨0, 1001⟩]) gs ?_|refine sop ?_
          refine cndt (xAA ?_)
          refine xA0 ?_
          repeat first|refine sgo ?_|refine sop ?_
          refine xCZ (xBM (xAA ?_))
          refine xBM ?_
          repeat first|refine sgo ?_|refine sop ?_
          exact agL (j, ⟨ak, false, false, av, asd, ast⟩) ⟨by simp only; omega, hv, rfl, rfl, by simp only at hbl ⊢; omega⟩ (xAT (h1 := by refine ⟨rfl, rfl, ?_, trivial⟩; exact congrArg (fun z => some (PV.int .i64 z)) (by simp only; omega)))
        | true =>
          rw [xAP rfl] at hv
          have hkl : keyL k l = xBz k ⟨ak, true, ah, av, asd, ast⟩ := by unfold keyL; rw [hv]
          rw [hkl]
          cases ah with
          | true =>
            repeat first|refine sgo ?_|refine cl (lent := [⟨0, 1001⟩]) gs ?_|refine sop ?_
            refine cndf ?_
            repeat first|refine sgo ?_|refine sop ?_
            refine cndt ?_
            repeat first|refine sgo ?_|refine sop ?_
            refine xAC ?_
            refine xA0 ?_
            repeat first|refine sgo ?_|refine sop ?_
            refine xCY (xBM (xAC ?_))
            exact ⟨.inr rfl, oAny rfl⟩
          | false =>
            repeat first|refine sgo ?_|refine cl (lent := [⟨0, 1001⟩]) gs ?_|refine sop ?_
            refine cndf ?_
            repeat first|refine sgo ?_|refine sop ?_
            refine cndf ?_
            repeat first|refine sgo ?_|refine sop ?_
            refine xAC ?_
            refine xA0 ?_
            repeat first|refine sgo ?_|refine sop ?_
            refine xCY (xBM (xAC ?_))
            exact ⟨.inr rfl, oAny rfl⟩
      · have gs := g6 rfl
        cases akn with
        | false =>
          have hh' : ah = false := hbh rfl ha
          subst hh'
          repeat first|refine sgo ?_|refine cl (lent := [⟨0, 1001⟩]) gs ?_|refine sop ?_
          refine cndt (xAA ?_)
          refine xA0 ?_
          repeat first|refine sgo ?_|refine sop ?_
          refine xCZ (xBM (xAA ?_))
          refine xBM ?_
          repeat first|refine sgo ?_|refine sop ?_
          exact agL (j, ⟨ak, false, false, av, asd, ast⟩) ⟨by simp only; omega, hv, rfl, rfl, by simp only at hbl ⊢; omega⟩ (xAT (h1 := by refine ⟨rfl, rfl, ?_, trivial⟩; exact congrArg (fun z => some (PV.int .i64 z)) (by simp only; omega)))
        | true =>
          rw [xAP rfl] at hv
          have hkl : keyL k l = xBz k ⟨ak, true, ah, av, asd, ast⟩ := by unfold keyL; rw [hv]
          rw [hkl]
          cases ah with
          | true =>
            repeat first|refine sgo ?_|refine cl (lent := [⟨0, 1001⟩]) gs ?_|refine sop ?_
            refine cndf ?_
            repeat first|refine sgo ?_|refine sop ?_
            refine cndt ?_
            repeat first|refine sgo ?_|refine sop ?_
            refine xAC ?_
            refine xA0 ?_
            repeat first|refine sgo ?_|refine sop ?_
            refine xCY (xBM (xAC ?_))
            exact ⟨.inr rfl, oAny rfl⟩
          | false =>
            repeat first|refine sgo ?_|refine cl (lent := [⟨0, 1001⟩]) gs ?_|refine sop ?_
            refine cndf ?_
            repeat first|refine sgo ?_|refine sop ?_
            refine cndf ?_
            repeat first|refine sgo ?_|refine sop ?_
            refine xAC ?_
            refine xA0 ?_
            repeat first|refine sgo ?_|refine sop ?_
            refine xCY (xBM (xAC ?_))
            exact ⟨.inr rfl, oAny rfl⟩
    · have hi0 : i = 0 := by have h' := of_decide_eq_false h; omega
      subst hi0
      have hv : a = xAN (fol0 k) l.reverse := hv
      rw [← hv]
      exact mid0 () ha xAT
  · intro _ hf
    have hkl : keyL k l = xBz k (xAN (fol0 k) l.reverse) := rfl
    have hfr := xED l.reverse (fol0 k) rfl rfl rfl hf
    rw [hkl]
    generalize xAN (fol0 k) l.reverse = a at *
    obtain ⟨ak, akn, ah, av, asd, ast⟩ := a
    obtain ⟨h1, h2⟩ := hfr
    simp only at hf h1 h2
    subst hf; subst h1; subst h2
    repeat first|refine sgo ?_|refine sop ?_
    exact xAC ⟨.inr rfl, oAny rfl⟩
theorem xHF {a b : Nat} {m : MsgL} (h : MsgLen a m) (hab : a ≤ b) : MsgLen b m := ⟨Nat.le_trans h.key hab, Nat.le_trans h.lo hab, Nat.le_trans h.hi hab, Nat.le_trans h.fr hab, Nat.le_trans h.to hab⟩
theorem xFM {k : Str} {l : List MsgL} (hk : k.length ≤ 100000) (hl : l.length ≤ 100) (ho : ∀ m ∈ l, MsgOk m) (h8 : ∀ m ∈ l, MsgLen 8 m) : VC Tryd.prog 16 [.str k, .sh false (l.map encM)] [] (.agg (xHu (keyL k l))) [] := xMV hk hl ho fun m hm => xHF (h8 m hm) (by decide)
end Go.Proofs
open Go.V Go.Pu
set_option linter.unusedVariables false
set_option linter.unusedSimpArgs false
set_option maxRecDepth 20000
namespace Go.Proofs
def vc51 := vcm Tryd.prog 51
theorem vf51 : VF Tryd.prog 51 = some (12, vc51, [.cell true 6 4]) := by kernel_rfl
def vc30 := vcm Tryd.prog 30
theorem vf30 : VF Tryd.prog 30 = some (80, vc30, [.cell true 6 4]) := by kernel_rfl
def vc12 := vcm Tryd.prog 12
theorem vf12 : VF Tryd.prog 12 = some (53, vc12, [.cell true 8 4]) := by kernel_rfl
def vc14 := vcm Tryd.prog 14
theorem vf14 : VF Tryd.prog 14 = some (29, vc14, [.cell true 3 6, .tmp 7]) := by kernel_rfl
def vc15 := vcm Tryd.prog 15
theorem vf15 : VF Tryd.prog 15 = some (32, vc15, [.cell true 3 6, .tmp 7]) := by kernel_rfl
abbrev xOz (f : FolL) : List PV := [.str f.key, .bool f.known, .bool f.has, .str f.val, .bool f.std, .int .i64 f.st]
theorem xN5 (f : FolL) (n : Int) : VC Tryd.prog 51 [.agg (xOz f), .int .i64 n] [] (.agg (xOz (xBZ f n))) [] := by
  obtain ⟨k, kn, h, v, sd, st⟩ := f
  cases sd
  · refine vcs vf51 ?_
    repeat first|refine sgo ?_|refine sop ?_
    refine cndt ?_
    repeat first|refine sgo ?_|refine sop ?_
    exact xAC ⟨.inr rfl, oAny rfl⟩
  · refine vcs vf51 ?_
    repeat first|refine sgo ?_|refine sop ?_
    refine cndf (xAA ?_)
    repeat first|refine sgo ?_|refine sop ?_
    exact xAC ⟨.inr rfl, oAny rfl⟩
set_option maxHeartbeats 2000000 in
theorem xPy (f : FolL) {m : MsgL} (hm : MsgSz m) (hl : f.key.length ≤ 1000000) : VC Tryd.prog 30 [.agg (xOz f), .agg (encM m)] [] (.agg (xOz (xAe f m))) [] := by
  have hst := xN5 f m.n
  have hh := xI9 m.sp f.key
  have b1 := xDU f.key m.fr (by omega) (by have := hm.fr; omega)
  have b2 := xDU f.key m.to (by omega) (by have := hm.to; omega)
  have hfr := hm.fr
  have hk := hm.k
  clear hm
  unfold xAe
  obtain ⟨mk, m2, m3, m4, m5, m6, m7⟩ := m
  simp only at hk hst hh b1 b2 hfr ⊢
  rcases six hk with rfl | rfl | rfl | rfl | rfl | rfl
  · rw [if_pos rfl]
    cases hc : (m2 == f.key) with
    | true =>
      rw [if_pos (by simpa using hc)]
      refine vcs vf30 ?_
      repeat first|refine sgo ?_|refine sop ?_
      refine cndt ?_
      repeat first|refine sgo ?_|refine sop ?_
      refine cndt ?_
      repeat first|refine sgo ?_|refine cv0 hst ?_|refine sop ?_
      exact xAC ⟨.inr rfl, oAny rfl⟩
    | false =>
      rw [if_neg (by simpa using hc)]
      refine vcs vf30 ?_
      repeat first|refine sgo ?_|refine sop ?_
      refine cndt ?_
      repeat first|refine sgo ?_|refine sop ?_
      refine cndf (xAA ?_)
      repeat first|refine sgo ?_|refine sop ?_
      exact xAC ⟨.inr rfl, oAny rfl⟩
  · rw [if_neg (by decide), if_pos rfl]
    cases hc : (m2 == f.key) with
    | true =>
      rw [if_pos (by simpa using hc)]
      refine vcs vf30 ?_
      repeat first|refine sgo ?_|refine sop ?_
      refine cndf ?_
      repeat first|refine sgo ?_|refine sop ?_
      refine cndt ?_
      repeat first|refine sgo ?_|refine sop ?_
      refine cndt ?_
      repeat first|refine sgo ?_|refine sop ?_
      exact xAC ⟨.inr rfl, oAny rfl⟩
    | false =>
      rw [if_neg (by simpa using hc)]
      refine vcs vf30 ?_
      repeat first|refine sgo ?_|refine sop ?_
      refine cndf ?_
      repeat first|refine sgo ?_|refine sop ?_
      refine cndt ?_
      repeat first|refine sgo ?_|refine sop ?_
      refine cndf (xAA ?_)
      repeat first|refine sgo ?_|refine sop ?_
      exact xAC ⟨.inr rfl, oAny rfl⟩
  · rw [if_neg (by decide), if_neg (by decide), if_pos rfl]
    generalize hasL m4 f.key = b at *
    cases b with
    | true =>
      rw [if_pos rfl]
      refine vcs vf30 ?_
      repeat first|refine sgo ?_|refine sop ?_
      refine cndf ?_
      repeat first|refine sgo ?_|refine sop ?_
      refine cndf ?_
      repeat first|refine sgo ?_|refine sop ?_
      refine cndt ?_
      repeat first|refine sgo ?_|refine cv0 hh ?_|refine sop ?_
      refine cndt ?_
      repeat first|refine sgo ?_|refine sop ?_
      exact xAC ⟨.inr rfl, oAny rfl⟩
    | false =>
      rw [if_neg (by simp)]
      refine vcs vf30 ?_
      repeat first|refine sgo ?_|refine sop ?_
      refine cndf ?_
      repeat first|refine sgo ?_|refine sop ?_
      refine cndf ?_
      repeat first|refine sgo ?_|refine sop ?_
      refine cndt ?_
      repeat first|refine sgo ?_|refine cv0 hh ?_|refine sop ?_
      refine cndf (xAA ?_)
      repeat first|refine sgo ?_|refine sop ?_
      exact xAC ⟨.inr rfl, oAny rfl⟩
  · rw [if_neg (by decide), if_neg (by decide), if_neg (by decide), if_neg (by decide)]
    simp only [true_and]
    generalize xAD f.key m5 = c1 at *
    generalize hc2 : xAD f.key m6 = c2 at *
    cases c1 with
    | true =>
      rw [if_pos rfl]
      refine vcs vf30 ?_
      repeat first|refine sgo ?_|refine sop ?_
      refine cndf ?_
      repeat first|refine sgo ?_|refine sop ?_
      refine cndf ?_
      repeat first|refine sgo ?_|refine sop ?_
      refine cndf ?_
      repeat first|refine sgo ?_|refine sop ?_
      refine cndf ?_
      repeat first|refine sgo ?_|refine cv0 b1 ?_|refine sop ?_
      refine cndt ?_
      repeat first|refine sgo ?_|refine sop ?_
      exact xAC ⟨.inr rfl, oAny rfl⟩
    | false =>
      rw [if_neg (by simp)]
      cases c2 with
      | true =>
        have hlen : m6.length ≤ f.key.length := by obtain ⟨r, hr⟩ := begins_iff.1 hc2; rw [hr]; simp
        rw [if_pos rfl]
        refine vcs vf30 ?_
        repeat first|refine sgo ?_|refine sop ?_
        refine cndf ?_
        repeat first|refine sgo ?_|refine sop ?_
        refine cndf ?_
        repeat first|refine sgo ?_|refine sop ?_
        refine cndf ?_
        repeat first|refine sgo ?_|refine sop ?_
        refine cndf ?_
        repeat first|refine sgo ?_|refine cv0 b1 ?_|refine sop ?_
        refine cndf (xAA ?_)
        repeat first|refine sgo ?_|refine cv0 b2 ?_|refine sop ?_
        refine cndt ?_
        repeat first|refine sgo ?_|refine o_v0 (vslD m6.length hlen) ?_|refine sop ?_
        exact xAC ⟨.inr rfl, oAny rfl⟩
      | false =>
        rw [if_neg (by simp)]
        refine vcs vf30 ?_
        repeat first|refine sgo ?_|refine sop ?_
        refine cndf ?_
        repeat first|refine sgo ?_|refine sop ?_
        refine cndf ?_
        repeat first|refine sgo ?_|refine sop ?_
        refine cndf ?_
        repeat first|refine sgo ?_|refine sop ?_
        refine cndf ?_
        repeat first|refine sgo ?_|refine cv0 b1 ?_|refine sop ?_
        refine cndf (xAA ?_)
        repeat first|refine sgo ?_|refine cv0 b2 ?_|refine sop ?_
        refine cndf (xAA ?_)
        repeat first|refine sgo ?_|refine sop ?_
        exact xAC ⟨.inr rfl, oAny rfl⟩
  · rw [if_neg (by decide), if_neg (by decide), if_neg (by decide), if_neg (by decide), if_neg (by rintro ⟨h, _⟩; exact absurd h (by decide))]
    generalize hc2 : xAD f.key m6 = c2 at *
    cases c2 with
    | true =>
      have hlen : m6.length ≤ f.key.length := by obtain ⟨r, hr⟩ := begins_iff.1 hc2; rw [hr]; simp
      rw [if_pos rfl]
      refine vcs vf30 ?_
      repeat first|refine sgo ?_|refine sop ?_
      refine cndf ?_
      repeat first|refine sgo ?_|refine sop ?_
      refine cndf ?_
      repeat first|refine sgo ?_|refine sop ?_
      refine cndf ?_
      repeat first|refine sgo ?_|refine sop ?_
      refine cndf ?_
      repeat first|refine sgo ?_|refine sop ?_
      refine cndf (xAA ?_)
      repeat first|refine sgo ?_|refine cv0 b2 ?_|refine sop ?_
      refine cndt ?_
      repeat first|refine sgo ?_|refine o_v0 (vslD m6.length hlen) ?_|refine sop ?_
      exact xAC ⟨.inr rfl, oAny rfl⟩
    | false =>
      rw [if_neg (by simp)]
      refine vcs vf30 ?_
      repeat first|refine sgo ?_|refine sop ?_
      refine cndf ?_
      repeat first|refine sgo ?_|refine sop ?_
      refine cndf ?_
      repeat first|refine sgo ?_|refine sop ?_
      refine cndf ?_
      repeat first|refine sgo ?_|refine sop ?_
      refine cndf ?_
      repeat first|refine sgo ?_|refine sop ?_
      refine cndf (xAA ?_)
      repeat first|refine sgo ?_|refine cv0 b2 ?_|refine sop ?_
      refine cndf (xAA ?_)
      repeat first|refine sgo ?_|refine sop ?_
      exact xAC ⟨.inr rfl, oAny rfl⟩
  · rw [if_neg (by decide), if_neg (by decide), if_neg (by decide), if_pos rfl]
    generalize hasL m4 f.key = b at *
    cases b with
    | true =>
      rw [if_pos rfl]
      refine vcs vf30 ?_
      repeat first|refine sgo ?_|refine sop ?_
      refine cndf ?_
      repeat first|refine sgo ?_|refine sop ?_
      refine cndf ?_
      repeat first|refine sgo ?_|refine sop ?_
      refine cndf ?_
      repeat first|refine sgo ?_|refine sop ?_
      refine cndt ?_
      repeat first|refine sgo ?_|refine cv0 hh ?_|refine sop ?_
      refine cndt ?_
      repeat first|refine sgo ?_|refine cv0 hst ?_|refine sop ?_
      exact xAC ⟨.inr rfl, oAny rfl⟩
    | false =>
      rw [if_neg (by simp)]
      refine vcs vf30 ?_
      repeat first|refine sgo ?_|refine sop ?_
      refine cndf ?_
      repeat first|refine sgo ?_|refine sop ?_
      refine cndf ?_
      repeat first|refine sgo ?_|refine sop ?_
      refine cndf ?_
      repeat first|refine sgo ?_|refine sop ?_
      refine cndt ?_
      repeat first|refine sgo ?_|refine cv0 hh ?_|refine sop ?_
      refine cndf (xAA ?_)
      repeat first|refine sgo ?_|refine sop ?_
      exact xAC ⟨.inr rfl, oAny rfl⟩
set_option maxHeartbeats 2000000 in
theorem xR5 {k : Str} {l : List MsgL} (hk : k.length ≤ 100000) (hl : l.length ≤ 100) (ho : ∀ m ∈ l, MsgOk m) (h8 : ∀ m ∈ l, MsgLen 8 m) : VC Tryd.prog 12 [.str k, .sh false (l.map encM)] [] (.agg (xHu (keyL k l))) [] := by
  have hml : (l.map encM).length = l.length := List.length_map _
  refine vcs vf12 ?_
  repeat first|refine sgo ?_|refine sop ?_
  refine xAH (fun (g : Nat × FolL) => [(0, .str k), (1, .sh false (l.map encM)), (4, .ptr ⟨1, 0⟩ 1 0 0), (5, .ptr ⟨1, 8208⟩ 1 0 0), (6, .int .i64 ((g.1 : Int) - 1))]) (fun g => [(⟨1, 0⟩, ⟨true, false, 8, [[.bool false, .bool false, .str [], .str [], .int .i64 0, .str [], .bool false, .int .i64 0]]⟩), (⟨1, 8208⟩, ⟨true, false, 6, [xOz g.2]⟩)]) (fun g => g.1)
    (fun g => g.1 ≤ l.length ∧ xAN g.2 (l.take g.1).reverse = xAN (fol0 k) l.reverse ∧ g.2.key.length + 8 * g.1 ≤ 200000)
    (l.length, fol0 k) (xAT (h1 := by refine ⟨rfl, rfl, rfl, rfl, ?_, trivial⟩; exact congrArg (fun z => some (PV.int .i64 z)) (by simp))) ⟨Nat.le_refl _, by simp only [List.take_length], by simp only [fol0]; omega⟩ ?_
  rintro ⟨i, a⟩ ⟨hi, hv, hkl⟩
  dsimp only at hi hv hkl ⊢
  by_cases hgo : 0 < i ∧ a.known = false
  · obtain ⟨h0, ha⟩ := hgo
    obtain ⟨j, rfl⟩ : ∃ j, i = j + 1 := ⟨i - 1, by omega⟩
    obtain ⟨m, hx⟩ : ∃ m, l[j]? = some m := ⟨_, List.getElem?_eq_getElem (by omega)⟩
    have hxe := gm (enc := encM) (n := ((j + 1 : Nat) : Int) - 1) hx (by omega)
    have hlt2 : ((j + 1 : Nat) : Int) - 1 < ((l.map encM).length : Nat) := by omega
    have hge2 : 0 ≤ ((j + 1 : Nat) : Int) - 1 := by omega
    have hmem := List.mem_of_getElem? hx
    have hm8 := h8 m hmem
    have hmz := MsgSz.of (ho m hmem) hm8
    have hbl := xJo (f := a) hm8 (Nat.le_refl _)
    rw [xJA hx, xAv ha] at hv
    have hb := xPy a hmz (by omega)
    have g1 : decide (((j + 1 : Nat) : Int) - 1 ≥ 0) = true := decide_eq_true (by omega)
    have g2 : (!a.known) = true := by rw [ha]; rfl
    repeat first|refine sgo ?_|refine sop ?_
    refine cndt (xAA ?_)
    repeat first|refine sgo ?_|refine cv0 hb ?_|refine sop ?_
    exact agn (Q := fun _ _ => True) (j, xAe a m) ⟨by simp only; omega, hv, by simp only at hbl ⊢; omega⟩ (xAT (h1 := by refine ⟨rfl, rfl, rfl, rfl, ?_, trivial⟩; exact congrArg (fun z => some (PV.int .i64 z)) (by simp only; omega)))
  · have hfin : a = xAN (fol0 k) l.reverse := by
      rw [← hv]
      by_cases h0 : 0 < i
      · have : a.known = true := by
          cases ha : a.known with
          | true => rfl
          | false => exact absurd ⟨h0, ha⟩ hgo
        rw [xAP this]
      · have : i = 0 := by omega
        subst this
        rfl
    have hkl2 : keyL k l = xBz k a := by unfold keyL; rw [hfin]
    rw [hkl2]
    by_cases h0 : 0 < i
    · have g1 : decide ((i : Int) - 1 ≥ 0) = true := decide_eq_true (by omega)
      have ha : a.known = true := by
        cases ha : a.known with
        | true => rfl
        | false => exact absurd ⟨h0, ha⟩ hgo
      clear hgo hv hfin hkl hkl2
      obtain ⟨ak, akn, ah, av, asd, ast⟩ := a
      simp only at ha
      subst ha
      cases ah with
      | true =>
        repeat first|refine sgo ?_|refine sop ?_
        refine cndf (xAF ?_)
        repeat first|refine sgo ?_|refine sop ?_
        refine cndf (xAA ?_)
        repeat first|refine sgo ?_|refine sop ?_
        refine cndt ?_
        repeat first|refine sgo ?_|refine sop ?_
        exact xAC ⟨.inr rfl, oAny rfl⟩
      | false =>
        repeat first|refine sgo ?_|refine sop ?_
        refine cndf (xAF ?_)
        repeat first|refine sgo ?_|refine sop ?_
        refine cndt ?_
        repeat first|refine sgo ?_|refine sop ?_
        exact xAC ⟨.inr rfl, oAny rfl⟩
    · have g1 : decide ((i : Int) - 1 ≥ 0) = false := decide_eq_false (by omega)
      clear hgo hv hfin hkl hkl2
      obtain ⟨ak, akn, ah, av, asd, ast⟩ := a
      cases akn with
      | true =>
        cases ah with
        | true =>
          repeat first|refine sgo ?_|refine sop ?_
          refine cndf (xAF ?_)
          repeat first|refine sgo ?_|refine sop ?_
          refine cndf (xAA ?_)
          repeat first|refine sgo ?_|refine sop ?_
          refine cndt ?_
          repeat first|refine sgo ?_|refine sop ?_
          exact xAC ⟨.inr rfl, oAny rfl⟩
        | false =>
          repeat first|refine sgo ?_|refine sop ?_
          refine cndf (xAF ?_)
          repeat first|refine sgo ?_|refine sop ?_
          refine cndt ?_
          repeat first|refine sgo ?_|refine sop ?_
          exact xAC ⟨.inr rfl, oAny rfl⟩
      | false =>
        repeat first|refine sgo ?_|refine sop ?_
        refine cndf (xAF ?_)
        repeat first|refine sgo ?_|refine sop ?_
        refine cndf (xAA ?_)
        repeat first|refine sgo ?_|refine sop ?_
        refine cndf (xAA ?_)
        repeat first|refine sgo ?_|refine sop ?_
        exact xAC ⟨.inr rfl, oAny rfl⟩
theorem xLt (f : FoundL) (p : PairL) (has : Bool) : VC Tryd.prog 14 [.agg (xHu f), .agg (encP p), .bool has] [] (.tup [.agg (encP (xGk f p has).1), .bool (xGk f p has).2]) [] := by
  obtain ⟨kn, h, ⟨p1, p2, p3⟩, key, sd, st⟩ := f
  obtain ⟨q1, q2, q3⟩ := p
  cases kn with
  | true =>
    refine xCC vf14 ?_ (Nat.le_of_ble_eq_true rfl) (by intro vs h; cases h; simp)
    repeat first|refine sgo ?_|refine sop ?_
    refine cndt ?_
    repeat first|refine sgo ?_|refine sop ?_
    exact xAC ⟨.inr rfl, oAny rfl⟩
  | false =>
    cases has with
    | false =>
      refine xCC vf14 ?_ (Nat.le_of_ble_eq_true rfl) (by intro vs h; cases h; simp)
      repeat first|refine sgo ?_|refine sop ?_
      (first | refine cndf (xAA ?_) | refine cndf ?_)
      repeat first|refine sgo ?_|refine sop ?_
      refine cndt ?_
      repeat first|refine sgo ?_|refine sop ?_
      exact xAC ⟨.inr rfl, oAny rfl⟩
    | true =>
      cases sd with
      | true =>
        refine xCC vf14 ?_ (Nat.le_of_ble_eq_true rfl) (by intro vs h; cases h; simp)
        repeat first|refine sgo ?_|refine sop ?_
        (first | refine cndf (xAA ?_) | refine cndf ?_)
        repeat first|refine sgo ?_|refine sop ?_
        refine cndf (xAA ?_)
        repeat first|refine sgo ?_|refine sop ?_
        refine cndt ?_
        repeat first|refine sgo ?_|refine sop ?_
        exact xAC ⟨.inr rfl, oAny rfl⟩
      | false =>
        refine xCC vf14 ?_ (Nat.le_of_ble_eq_true rfl) (by intro vs h; cases h; simp)
        repeat first|refine sgo ?_|refine sop ?_
        (first | refine cndf (xAA ?_) | refine cndf ?_)
        repeat first|refine sgo ?_|refine sop ?_
        refine cndf (xAA ?_)
        repeat first|refine sgo ?_|refine sop ?_
        refine cndf (xAA ?_)
        repeat first|refine sgo ?_|refine sop ?_
        exact xAC ⟨.inr rfl, oAny rfl⟩
theorem xN2 (f : FoundL) (p : PairL) (has : Bool) : VC Tryd.prog 15 [.agg (xHu f), .agg (encP p), .bool has] [] (.tup [.agg (encP (xGk f p has).1), .bool (xGk f p has).2]) [] := by
  obtain ⟨kn, h, ⟨p1, p2, p3⟩, key, sd, st⟩ := f
  obtain ⟨q1, q2, q3⟩ := p
  cases kn with
  | true =>
    refine xCC vf15 ?_ (Nat.le_of_ble_eq_true rfl) (by intro vs h; cases h; simp)
    repeat first|refine sgo ?_|refine sop ?_
    refine cndt ?_
    repeat first|refine sgo ?_|refine sop ?_
    exact xAC ⟨.inr rfl, oAny rfl⟩
  | false =>
    cases has with
    | false =>
      refine xCC vf15 ?_ (Nat.le_of_ble_eq_true rfl) (by intro vs h; cases h; simp)
      repeat first|refine sgo ?_|refine sop ?_
      (first | refine cndf (xAA ?_) | refine cndf ?_)
      repeat first|refine sgo ?_|refine sop ?_
      refine cndt ?_
      repeat first|refine sgo ?_|refine sop ?_
      exact xAC ⟨.inr rfl, oAny rfl⟩
    | true =>
      cases sd with
      | true =>
        refine xCC vf15 ?_ (Nat.le_of_ble_eq_true rfl) (by intro vs h; cases h; simp)
        repeat first|refine sgo ?_|refine sop ?_
        (first | refine cndf (xAA ?_) | refine cndf ?_)
        repeat first|refine sgo ?_|refine sop ?_
        refine cndf (xAA ?_)
        repeat first|refine sgo ?_|refine sop ?_
        refine cndt ?_
        repeat first|refine sgo ?_|refine sop ?_
        exact xAC ⟨.inr rfl, oAny rfl⟩
      | false =>
        refine xCC vf15 ?_ (Nat.le_of_ble_eq_true rfl) (by intro vs h; cases h; simp)
        repeat first|refine sgo ?_|refine sop ?_
        (first | refine cndf (xAA ?_) | refine cndf ?_)
        repeat first|refine sgo ?_|refine sop ?_
        refine cndf (xAA ?_)
        repeat first|refine sgo ?_|refine sop ?_
        refine cndf (xAA ?_)
        repeat first|refine sgo ?_|refine sop ?_
        exact xAC ⟨.inr rfl, oAny rfl⟩
end Go.Proofs
