/- Sa -/
import Derived.Test.YtlpjfoijjlmgeaaGreatDoorVD
import Derived.Test.YtlpjfoijjlmgeaaGreatDoorProg
import Derived.Test.YtlpjfoijjlmgeaaGreatDoorPu
open Go.V Go.Pu
set_option linter.unusedVariables false
set_option linter.unusedSimpArgs false
set_option maxRecDepth 20000
namespace Go.Proofs
def vc150 := vcm Tryz.prog 150
theorem vf150 : VF Tryz.prog 150 = some (20, vc150, [.tmp 4]) := by kernel_rfl
def vc31 := vcm Tryz.prog 31
theorem vf31 : VF Tryz.prog 31 = some (13, vc31, [.tmp 2]) := by kernel_rfl
def vc28 := vcm Tryz.prog 28
theorem vf28 : VF Tryz.prog 28 = some (7, vc28, [.cell true 2 2]) := by kernel_rfl
def vc39 := vcm Tryz.prog 39
theorem vf39 : VF Tryz.prog 39 = some (7, vc39, [.cell true 2 2]) := by kernel_rfl
def vc47 := vcm Tryz.prog 47
theorem vf47 : VF Tryz.prog 47 = some (18, vc47, [.tmp 4]) := by kernel_rfl
def vc60 := vcm Tryz.prog 60
theorem vf60 : VF Tryz.prog 60 = some (20, vc60, [.tmp 4]) := by kernel_rfl
def vc74 := vcm Tryz.prog 74
theorem vf74 : VF Tryz.prog 74 = some (6, vc74, [.tmp 2]) := by kernel_rfl
def vc46 := vcm Tryz.prog 46
theorem vf46 : VF Tryz.prog 46 = some (20, vc46, [.tmp 4]) := by kernel_rfl
def vc59 := vcm Tryz.prog 59
theorem vf59 : VF Tryz.prog 59 = some (6, vc59, [.tmp 2]) := by kernel_rfl
def vc61 := vcm Tryz.prog 61
theorem vf61 : VF Tryz.prog 61 = some (33, vc61, [.tmp 4]) := by kernel_rfl
def vc50 := vcm Tryz.prog 50
theorem vf50 : VF Tryz.prog 50 = some (5, vc50, [.tmp 2]) := by kernel_rfl
def vc30 := vcm Tryz.prog 30
theorem vf30 : VF Tryz.prog 30 = some (22, vc30, [.cell true 2 4]) := by kernel_rfl
def vc82 := vcm Tryz.prog 82
theorem vf82 : VF Tryz.prog 82 = some (18, vc82, [.tmp 4]) := by kernel_rfl
def vc75 := vcm Tryz.prog 75
theorem vf75 : VF Tryz.prog 75 = some (15, vc75, [.tmp 4, .tmp 5]) := by kernel_rfl
def vc62 := vcm Tryz.prog 62
theorem vf62 : VF Tryz.prog 62 = some (11, vc62, [.tmp 4, .tmp 5]) := by kernel_rfl
def vc51 := vcm Tryz.prog 51
theorem vf51 : VF Tryz.prog 51 = some (21, vc51, [.tmp 6, .tmp 7]) := by kernel_rfl
def vc40 := vcm Tryz.prog 40
theorem vf40 : VF Tryz.prog 40 = some (18, vc40, [.tmp 4]) := by kernel_rfl
abbrev encS (s : SpanL) : List PV := [.str s.lo, .str s.hi]
theorem xOp (s : SpanL) (k : Str) : VC Tryz.prog 150 [.agg (encS s), .str k] [] (.bool (hasL s k)) [] := by
  refine vcs vf150 ?_
  repeat' first|refine sgo ?_|refine scn ?_|refine sop ?_|refine xAC ⟨.inr rfl, ?_⟩|refine cnd (fun _ => ?_) (fun _ => ?_)|(refine xCT (fun _ => ?_) (fun _ => ?_) <;> first|refine xAm ?_|refine sop ?_)
  all_goals refine oB ?_
  all_goals simp_all [hasL]
theorem xDn (s : SpanL) : VC Tryz.prog 31 [.agg (encS s)] [] (.bool (xAJ s)) [] := by
  refine vcs vf31 ?_
  repeat' first|refine sgo ?_|refine scn ?_|refine sop ?_|refine xAC ⟨.inr rfl, ?_⟩|refine cnd (fun _ => ?_) (fun _ => ?_)|(refine xCT (fun _ => ?_) (fun _ => ?_) <;> first|refine xAm ?_|refine sop ?_)
  all_goals refine oB ?_
  all_goals simp_all [xAJ]
theorem xRF (k : Str) (hk : k.length ≤ 1000000000) : VC Tryz.prog 28 [.str k] [] (.agg (encS (oneL k))) [] := by
  refine vcs vf28 ?_
  repeat' first|refine sgo ?_|refine scn ?_|refine sop ?_|refine xAC ⟨.inr rfl, ?_⟩|refine cnd (fun _ => ?_) (fun _ => ?_)|(refine xCT (fun _ => ?_) (fun _ => ?_) <;> first|refine xAm ?_|refine sop ?_)
  all_goals exact oAny rfl
theorem xSG (k : Str) (hk : k.length ≤ 1000000000) : VC Tryz.prog 39 [.str k] [] (.agg (encS (oneL k))) [] := by
  refine vcs vf39 ?_
  repeat' first|refine sgo ?_|refine scn ?_|refine sop ?_|refine xAC ⟨.inr rfl, ?_⟩|refine cnd (fun _ => ?_) (fun _ => ?_)|(refine xCT (fun _ => ?_) (fun _ => ?_) <;> first|refine xAm ?_|refine sop ?_)
  all_goals exact oAny rfl
theorem xRK (a : Str) : VC Tryz.prog 59 [.str a] [] (.bool false) [] := by
  refine vcs vf59 ?_
  repeat' first|refine sgo ?_|refine scn ?_|refine sop ?_|refine xAC ⟨.inr rfl, ?_⟩|refine cnd (fun _ => ?_) (fun _ => ?_)|(refine xCT (fun _ => ?_) (fun _ => ?_) <;> first|refine xAm ?_|refine sop ?_)
  all_goals refine oB ?_
  all_goals simp
theorem xON (a : Str) : VC Tryz.prog 74 [.str a] [] (.bool false) [] := by
  refine vcs vf74 ?_
  repeat' first|refine sgo ?_|refine scn ?_|refine sop ?_|refine xAC ⟨.inr rfl, ?_⟩|refine cnd (fun _ => ?_) (fun _ => ?_)|(refine xCT (fun _ => ?_) (fun _ => ?_) <;> first|refine xAm ?_|refine sop ?_)
  all_goals refine oB ?_
  all_goals simp
theorem xRZ (a b : Str) : VC Tryz.prog 46 [.str a, .str b] [] (.int .i64 (xCA a b)) [] := by
  refine vcs vf46 ?_
  repeat' first|refine sgo ?_|refine scn ?_|refine cv0 (xRK _) ?_|refine sop ?_|refine xAC ⟨.inr rfl, ?_⟩|refine cnd (fun _ => ?_) (fun _ => ?_)|(refine xCT (fun _ => ?_) (fun _ => ?_) <;> first|refine cv0 (xRK _) ?_|refine xAm ?_|refine sop ?_)
  all_goals refine oI ?_
  all_goals simp_all [xCA]
theorem xPB (a b : Str) : VC Tryz.prog 60 [.str a, .str b] [] (.int .i64 (xCA a b)) [] := by
  refine vcs vf60 ?_
  repeat' first|refine sgo ?_|refine scn ?_|refine cv0 (xON _) ?_|refine sop ?_|refine xAC ⟨.inr rfl, ?_⟩|refine cnd (fun _ => ?_) (fun _ => ?_)|(refine xCT (fun _ => ?_) (fun _ => ?_) <;> first|refine cv0 (xON _) ?_|refine xAm ?_|refine sop ?_)
  all_goals refine oI ?_
  all_goals simp_all [xCA]
theorem xEX (a b : Str) : VC Tryz.prog 47 [.str a, .str b] [] (.int .i64 (xEk a b)) [] := by
  refine vcs vf47 ?_
  repeat' first|refine sgo ?_|refine scn ?_|refine cv0 (xPB _ _) ?_|refine sop ?_|refine xAC ⟨.inr rfl, ?_⟩|refine cnd (fun _ => ?_) (fun _ => ?_)|(refine xCT (fun _ => ?_) (fun _ => ?_) <;> first|refine cv0 (xPB _ _) ?_|refine xAm ?_|refine sop ?_)
  all_goals refine oI ?_
  all_goals simp_all [xEk]
end Go.Proofs
open Go.V Go.Pu
set_option linter.unusedVariables false
set_option linter.unusedSimpArgs false
set_option maxRecDepth 20000
namespace Go.Proofs
theorem xIB (a b : Str) : VC Tryz.prog 61 [.sh false [[.str a], [.str b]], .fn 47 []] [] (.str (xB7 a b)) [] := by
  refine vcs vf61 ?_
  repeat' first|refine sgo ?_|refine scn ?_|refine cv0 (xEX _ _) ?_|refine xO3 3 ?_|refine sop ?_|refine xAC ⟨.inr rfl, ?_⟩|refine cnd (fun _ => ?_) (fun _ => ?_)|(refine xCT (fun _ => ?_) (fun _ => ?_) <;> first|refine cv0 (xEX _ _) ?_|refine xO3 3 ?_|refine xAm ?_|refine sop ?_)
  all_goals refine oS ?_
  all_goals simp_all [xB7]
  all_goals omega
theorem xMA (a b : Str) : VC Tryz.prog 50 [.sh false [[.str a], [.str b]]] [] (.str (xB7 a b)) [] := by
  refine vcs vf50 ?_
  repeat' first|refine sgo ?_|refine scn ?_|refine cv0 (xIB _ _) ?_|refine sop ?_|refine xAC ⟨.inr rfl, ?_⟩|refine cnd (fun _ => ?_) (fun _ => ?_)|(refine xCT (fun _ => ?_) (fun _ => ?_) <;> first|refine cv0 (xIB _ _) ?_|refine xAm ?_|refine sop ?_)
  all_goals exact oS rfl
theorem xK2 (a b : SpanL) : VC Tryz.prog 30 [.agg (encS a), .agg (encS b)] [] (.agg (encS (xAt a b))) [] := by
  refine vcs vf30 ?_
  repeat' first|refine sgo ?_|refine scn ?_|refine cv0 (xMA a.hi b.hi) ?_|refine cv0 (xDn ⟨maxL a.lo b.lo, xB7 a.hi b.hi⟩) ?_|refine sop ?_|refine xAC ⟨.inr rfl, ?_⟩|refine cnd (fun _ => ?_) (fun _ => ?_)|(refine xCT (fun _ => ?_) (fun _ => ?_) <;> first|refine cv0 (xMA a.hi b.hi) ?_|refine cv0 (xDn ⟨maxL a.lo b.lo, xB7 a.hi b.hi⟩) ?_|refine xAm ?_|refine sop ?_)
  all_goals refine oC ?_
  all_goals simp_all [xAt, xJn]
  all_goals rfl
theorem xED (k p : Str) (hk : k.length ≤ 1000000000) (hp : p.length ≤ 1000000000) : VC Tryz.prog 82 [.str k, .str p] [] (.bool (xAD k p)) [] := by
  refine vcs vf82 ?_
  repeat' first|refine sgo ?_|refine scn ?_|refine xEq ?_|refine sop ?_|refine xAC ⟨.inr rfl, ?_⟩|refine cnd (fun _ => ?_) (fun _ => ?_)|(refine xCT (fun _ => ?_) (fun _ => ?_) <;> first|refine xEq ?_|refine xAm ?_|refine sop ?_)
  all_goals refine oB ?_
  all_goals simp_all [xAD]
  all_goals omega
theorem xKV (k p : Str) (hk : k.length ≤ 1000000000) (hp : p.length ≤ 1000000000) : VC Tryz.prog 40 [.str k, .str p] [] (.bool (xAD k p)) [] := by
  refine vcs vf40 ?_
  repeat' first|refine sgo ?_|refine scn ?_|refine xEq ?_|refine sop ?_|refine xAC ⟨.inr rfl, ?_⟩|refine cnd (fun _ => ?_) (fun _ => ?_)|(refine xCT (fun _ => ?_) (fun _ => ?_) <;> first|refine xEq ?_|refine xAm ?_|refine sop ?_)
  all_goals refine oB ?_
  all_goals simp_all [xAD]
  all_goals omega
theorem xO1 (k p : Str) (hk : k.length ≤ 1000000000) (hp : p.length ≤ 1000000000) : VC Tryz.prog 75 [.str k, .str p] [] (.tup [.str (if xAD k p = true then k.drop p.length else k), .bool (xAD k p)]) [] := by
  refine xCL vf75 ?_ (Nat.le_of_ble_eq_true rfl) (by intro vs h; cases h; intro p hp q; rcases List.mem_cons.1 hp with rfl | hp <;> simp_all)
  have hl : xAD k p = true → p.length ≤ k.length := fun h => by simp [xAD] at h; exact h.1
  repeat' first|refine sgo ?_|refine scn ?_|refine cv0 (xED k p hk hp) ?_|refine xEq ?_|refine sop ?_|refine xAC ⟨.inr rfl, ?_⟩|refine cnd (fun _ => ?_) (fun _ => ?_)|(refine xCT (fun _ => ?_) (fun _ => ?_) <;> first|refine cv0 (xED k p hk hp) ?_|refine xEq ?_|refine xAm ?_|refine sop ?_)
  all_goals refine oSB ?_
  all_goals simp_all
  all_goals (rw [List.take_of_length_le (by simp)])
theorem xRY (k p : Str) (hk : k.length ≤ 1000000000) (hp : p.length ≤ 1000000000) : VC Tryz.prog 62 [.str k, .str p] [] (.tup [.str (if xAD k p = true then k.drop p.length else k), .bool (xAD k p)]) [] := by
  refine xCL vf62 ?_ (Nat.le_of_ble_eq_true rfl) (by intro vs h; cases h; intro p hp q; rcases List.mem_cons.1 hp with rfl | hp <;> simp_all)
  repeat' first|refine sgo ?_|refine scn ?_|refine cv0 (xO1 k p hk hp) ?_|refine sop ?_|refine xAC ⟨.inr rfl, ?_⟩|refine cnd (fun _ => ?_) (fun _ => ?_)|(refine xCT (fun _ => ?_) (fun _ => ?_) <;> first|refine cv0 (xO1 k p hk hp) ?_|refine xAm ?_|refine sop ?_)
  all_goals exact oSB rfl
theorem xGQ (k f t : Str) (hk : k.length ≤ 1000000000) (hf : f.length ≤ 1000000000) (ht : t.length ≤ 1000000000) : VC Tryz.prog 51 [.str k, .str f, .str t] [] (.tup [.str (xD7 k f t).1, .bool (xD7 k f t).2]) [] := by
  refine xCL vf51 ?_ (Nat.le_of_ble_eq_true rfl) (by intro vs h; cases h; intro p hp q; rcases List.mem_cons.1 hp with rfl | hp <;> simp_all)
  by_cases hb : xAD k f = true
  · have hc := xRY k f hk hf
    rw [if_pos hb] at hc
    have hl : (k.drop f.length).length ≤ 1000000000 := by simp; omega
    repeat' first|refine sgo ?_|refine scn ?_|refine cv0 hc ?_|refine sop ?_|refine xAC ⟨.inr rfl, ?_⟩|refine cnd (fun _ => ?_) (fun _ => ?_)|(refine xCT (fun _ => ?_) (fun _ => ?_) <;> first|refine cv0 hc ?_|refine xAm ?_|refine sop ?_)
    all_goals refine oSB ?_
    all_goals simp_all [xD7]
  · have hc := xRY k f hk hf
    rw [if_neg hb] at hc
    repeat' first|refine sgo ?_|refine scn ?_|refine cv0 hc ?_|refine sop ?_|refine xAC ⟨.inr rfl, ?_⟩|refine cnd (fun _ => ?_) (fun _ => ?_)|(refine xCT (fun _ => ?_) (fun _ => ?_) <;> first|refine cv0 hc ?_|refine xAm ?_|refine sop ?_)
    all_goals refine oSB ?_
    all_goals simp_all [xD7]
end Go.Proofs
open Go.V Go.Pu
set_option linter.unusedVariables false
set_option linter.unusedSimpArgs false
set_option maxRecDepth 20000
namespace Go.Proofs
def vc29 := vcm Tryz.prog 29
theorem vf29 : VF Tryz.prog 29 = some (38, vc29, [.cell true 2 2]) := by kernel_rfl
def vc37 := vcm Tryz.prog 37
theorem vf37 : VF Tryz.prog 37 = some (35, vc37, [.cell true 2 2]) := by kernel_rfl
theorem xPu {p : Str} {n : Nat} {c : UInt8} (h : n < p.length) : (p.set n c).take (n + 1) = p.take n ++ [c] := by
  rw [List.take_add_one, List.take_set, List.set_eq_of_length_le (by simp; omega)]
  simp [h]
set_option maxHeartbeats 1000000 in
theorem xDN (p : Str) (hp : p.length ≤ 1000000000) : VC Tryz.prog 29 [.str p] [] (.agg (encS (xAG p))) [] := by
  refine vcs vf29 ?_
  repeat first|refine sgo ?_|refine sop ?_
  refine xAK (fun (g : Nat) => [(0, .str p), (2, .ptr ⟨1, 0⟩ 1 0 0), (3, .own ⟨1, 8200⟩ (p.map encB).length 0 g)])
    (fun g => [(⟨1, 0⟩, ⟨true, false, 2, [[.str [], .str []]]⟩), (⟨1, 8200⟩, blkV 1 (p.map encB))]) (fun g => g)
    (fun g => g ≤ p.length ∧ xBg p g = xBg p p.length) p.length (goes (h1 := by refine ⟨rfl, rfl, ?_, trivial⟩; simp; rfl)) ⟨Nat.le_refl _, rfl⟩ ?_
  rintro n ⟨hn, hs⟩
  (try dsimp only)
  have hel : (p.map encB).length = p.length := List.length_map ..
  repeat first|refine sgo ?_|refine sop ?_
  refine xCT (fun hg => ?_) (fun hg => ?_)
  · have hpos : 0 < n := by have := of_decide_eq_true hg; omega
    obtain ⟨m, rfl⟩ : ∃ m, n = m + 1 := ⟨n - 1, by omega⟩
    obtain ⟨c, hc⟩ : ∃ c, p[m]? = some c := ⟨_, List.getElem?_eq_getElem (by omega)⟩
    have hce : (blkV 1 (p.map encB)).els[0 + (((m + 1 : Nat) : Int) - 1).toNat]? = some (encB c) := by
      rw [show 0 + (((m + 1 : Nat) : Int) - 1).toNat = m by omega]
      show (p.map encB)[m]? = _
      rw [List.getElem?_map, hc]; rfl
    repeat first|refine sgo ?_|refine xAL ?_|refine sop ?_
    refine cnd (fun h => xAB ?_) (fun h => xAE ?_)
    · have hc255 : p[m]? = some 255 := by
        rw [hc]; congr 1
        have : (c.toNat : Int) = 255 := by simpa using h
        exact UInt8.toNat_inj.1 (by show c.toNat = 255; omega)
      repeat first|refine sgo ?_|refine xIo ?_|refine sop ?_
      refine agn m ⟨by omega, ?_⟩ (goes (h1 := by refine ⟨rfl, rfl, congrArg (fun x => some (PV.own ⟨1, 8200⟩ (p.map encB).length 0 x)) (?_ : (((m + 1 : Nat) : Int) - 1).toNat - Int.toNat 0 = m), trivial⟩; omega))
      rw [← hs, xBg, if_pos hc255]
    · have hne : ¬ p[m]? = some 255 := by
        rw [hc]
        intro e
        cases e
        exact absurd h (by decide)
      have hst : xBg p (m + 1) = m + 1 := by rw [xBg, if_neg hne]
      repeat first|refine sgo ?_|refine sop ?_
      refine cndt ?_ rfl (decide_eq_true (by omega))
      have hw := xGb c
      have hset := xPu (p := p) (n := m) (c := c + 1) (by omega)
      have hmm : 0 + (((m + 1 : Nat) : Int) - 1).toNat = m := by omega
      have hb2 : (((p.set (0 + (((m + 1 : Nat) : Int) - 1).toNat) (c + 1)).map encB).drop 0).take (m + 1) = (p.take m ++ [c + 1]).map encB := by rw [hmm, List.drop_zero, ← List.map_take, hset]
      repeat first|refine sgo ?_|refine xAL ?_|refine xRH ?_|refine o_v (vst encB (c + 1)) ?_|refine xRG hb2 ?_|refine sop ?_
      refine xAC ⟨.inr rfl, oC ?_⟩
      have : upL p = p.take m ++ [c + 1] := by
        unfold upL
        rw [← hs, hst]
        simp [List.getD, hc]
      rw [show xAG p = ⟨p, upL p⟩ from rfl, this]
      rfl
  · have h0 : n = 0 := by have := of_decide_eq_false hg; omega
    subst h0
    repeat first|refine sgo ?_|refine sop ?_
    refine cndf (xAE ?_)
    repeat first|refine sgo ?_|refine sop ?_
    refine cndf (xAB ?_) rfl (by simp)
    have hb2 : (((p.map encB).drop 0).take 0) = ([] : Str).map encB := rfl
    repeat first|refine sgo ?_|refine xRG hb2 ?_|refine sop ?_
    refine xAC ⟨.inr rfl, oC ?_⟩
    have : upL p = [] := by
      unfold upL
      rw [← hs]
      rfl
    rw [show xAG p = ⟨p, upL p⟩ from rfl, this]
    rfl
theorem xMu (p : Str) (hp : p.length ≤ 1000000000) : VC Tryz.prog 37 [.str p] [] (.agg (encS (xAG p))) [] := by
  refine vcs vf37 ?_
  repeat first|refine sgo ?_|refine sop ?_
  refine xAK (fun (g : Nat) => [(0, .str p), (2, .ptr ⟨1, 0⟩ 1 0 0), (3, .int .i64 g)])
    (fun g => [(⟨1, 0⟩, ⟨true, false, 2, [[.str [], .str []]]⟩)]) (fun g => g)
    (fun g => g ≤ p.length ∧ xBg p g = xBg p p.length) p.length goes ⟨Nat.le_refl _, rfl⟩ ?_
  rintro n ⟨hn, hs⟩
  (try dsimp only)
  repeat first|refine sgo ?_|refine sop ?_
  refine xCT (fun hg => ?_) (fun hg => ?_)
  · have hpos : 0 < n := by have := of_decide_eq_true hg; omega
    obtain ⟨m, rfl⟩ : ∃ m, n = m + 1 := ⟨n - 1, by omega⟩
    obtain ⟨c, hc⟩ : ∃ c, p[m]? = some c := ⟨_, List.getElem?_eq_getElem (by omega)⟩
    have hce : p[(((m + 1 : Nat) : Int) - 1).toNat]? = some c := by
      rw [show (((m + 1 : Nat) : Int) - 1).toNat = m by omega]; exact hc
    have hmm : ((m + 1 : Nat) : Int) - 1 = (m : Nat) := by omega
    repeat first|refine sgo ?_|refine sop ?_
    refine cnd (fun h => xAB ?_) (fun h => xAE ?_)
    · have hc255 : p[m]? = some 255 := by
        rw [hc]; congr 1
        have : (c.toNat : Int) = 255 := by simpa using h
        exact UInt8.toNat_inj.1 (by show c.toNat = 255; omega)
      repeat first|refine sgo ?_|refine sop ?_
      refine agn m ⟨by omega, ?_⟩ (goes (h1 := by refine ⟨rfl, rfl, congrArg (fun x => some (PV.int .i64 x)) hmm, trivial⟩))
      rw [← hs, xBg, if_pos hc255]
    · have hne : ¬ p[m]? = some 255 := by
        rw [hc]
        intro e
        cases e
        exact absurd h (by decide)
      have hst : xBg p (m + 1) = m + 1 := by rw [xBg, if_neg hne]
      repeat first|refine sgo ?_|refine sop ?_
      refine cndf (xAB ?_) rfl (by simp; omega)
      have hw := xGb c
      have hl1 : ((p.drop (Int.toNat 0)).take ((((m + 1 : Nat) : Int) - 1).toNat - Int.toNat 0)).length ≤ 1000000000 := by simp; omega
      repeat first|refine sgo ?_|refine xEq ?_|refine xRH ?_|refine sop ?_
      refine xAC ⟨.inr rfl, oC ?_⟩
      have : upL p = p.take m ++ [c + 1] := by
        unfold upL
        rw [← hs, hst]
        simp [List.getD, hc]
      rw [show xAG p = ⟨p, upL p⟩ from rfl, this]
      show [PV.str p, PV.str (_ ++ [UInt8.ofNat (((c + 1).toNat : Int)).toNat])] = _
      rw [xP5, show (((m + 1 : Nat) : Int) - 1).toNat - Int.toNat 0 = m by omega]
      rfl
  · have h0 : n = 0 := by have := of_decide_eq_false hg; omega
    subst h0
    repeat first|refine sgo ?_|refine sop ?_
    refine cndf (xAE ?_)
    repeat first|refine sgo ?_|refine sop ?_
    refine cndt ?_ rfl rfl
    repeat first|refine sgo ?_|refine sop ?_
    refine xAC ⟨.inr rfl, oC ?_⟩
    have : upL p = [] := by
      unfold upL
      rw [← hs]
      rfl
    rw [show xAG p = ⟨p, upL p⟩ from rfl, this]
    rfl
end Go.Proofs
open Go.V Go.Pu
set_option linter.unusedVariables false
set_option linter.unusedSimpArgs false
set_option maxRecDepth 20000
namespace Go.Proofs
def xQ6 (l : List SpanL) (n : Int) : Bool := l.all (fun s => decide (s.lo.length ≤ 30) && decide (s.hi.length ≤ 30)) && decide ((l.length : Int) ≤ n)
theorem all_drop {α : Type} {f : α → Bool} {l : List α} {i : Nat} {x : α} (h : l[i]? = some x) : (l.drop i).all f = (f x && (l.drop (i + 1)).all f) := by
  rw [xBQ h, List.all_cons]
abbrev encT (s : Str) : List PV := [.str s]
def cutE (e : Str) : Str := (e.drop (Int.toNat 0)).take (((e.length : Int) - 1).toNat - Int.toNat 0)
def lowE (e : Str) : UInt8 := UInt8.ofNat (IntKind.u8.wrap (((e.getD (e.length - 1) 0).toNat : Int) - 1)).toNat
def xHt (e : Str) : List Str := if e.length = 0 then [e, e ++ [0], e ++ [255]] else [e, e ++ [0], e ++ [255]] ++ [cutE e, cutE e ++ [lowE e] ++ [255]]
def nearL (l : List SpanL) : List Str := l.foldl (fun o s => o ++ xHt s.lo ++ xHt s.hi) [[], [0], [97], [255]]
theorem xJr (e : Str) : (xHt e).length ≤ 5 := by unfold xHt; split <;> simp
theorem xQl (e : Str) : (cutE e).length ≤ e.length := by simp only [cutE, List.length_take, List.length_drop]; omega
theorem xJq {e k : Str} (h : k ∈ xHt e) : k.length ≤ e.length + 2 := by
  have := xQl e
  unfold xHt at h
  split at h
  · simp at h
    rcases h with rfl | rfl | rfl <;> simp
  · simp at h
    rcases h with rfl | rfl | rfl | rfl | rfl <;> simp <;> omega
theorem nearL_mem {l : List SpanL} {n : Nat} (hl : ∀ s ∈ l, s.lo.length ≤ n ∧ s.hi.length ≤ n) {k : Str} (h : k ∈ nearL l) : k.length ≤ n + 2 := by
  have key : ∀ (l : List SpanL) (o : List Str), (∀ s ∈ l, s.lo.length ≤ n ∧ s.hi.length ≤ n) → (∀ k ∈ o, k.length ≤ n + 2) → ∀ k ∈ l.foldl (fun o s => o ++ xHt s.lo ++ xHt s.hi) o, k.length ≤ n + 2 := by
    intro l
    induction l with
    | nil => intro o _ ho; exact ho
    | cons s l ih =>
      intro o hs ho
      refine ih _ (fun t ht => hs t (by simp [ht])) (fun k hk => ?_)
      obtain ⟨h1, h2⟩ := hs s (by simp)
      simp only [List.mem_append] at hk
      rcases hk with (hk | hk) | hk
      · exact ho k hk
      · have := xJq hk; omega
      · have := xJq hk; omega
  exact key l _ hl (by intro k hk; simp at hk; rcases hk with rfl | rfl | rfl | rfl <;> simp) k h
theorem nearL_len (l : List SpanL) : (nearL l).length ≤ 4 + 10 * l.length := by
  have key : ∀ (l : List SpanL) (o : List Str), (l.foldl (fun o s => o ++ xHt s.lo ++ xHt s.hi) o).length ≤ o.length + 10 * l.length := by
    intro l
    induction l with
    | nil => intro o; simp
    | cons s l ih =>
      intro o
      refine Nat.le_trans (ih _) ?_
      have h1 := xJr s.lo
      have h2 := xJr s.hi
      simp only [List.length_append, List.length_cons]
      omega
  exact key l _
end Go.Proofs
open Go.V Go.Pu
set_option linter.unusedVariables false
set_option linter.unusedSimpArgs false
set_option maxRecDepth 20000
namespace Go.Proofs
theorem any_drop {α : Type} {f : α → Bool} {l : List α} {i : Nat} {x : α} (h : l[i]? = some x) : (l.drop i).any f = (f x || (l.drop (i + 1)).any f) := by
  rw [xBQ h, List.any_cons]
theorem xS0 {α : Type} {l m : List α} {i : Nat} {x y : α} (h : l[i]? = some x) (h2 : m[i]? = some y) (hn : x ≠ y) : l ≠ m := by
  intro e; subst e; rw [h] at h2; cases h2; exact hn rfl
def xEe (s : SpanL) : Str → List Str → List SpanL
  | lo, [] => [xAt s ⟨lo, []⟩]
  | lo, p :: l => xAt s ⟨lo, p⟩ :: xEe s p l
theorem xM1 (s : SpanL) : ∀ (lo : Str) (l : List Str), (xEe s lo l).length = l.length + 1
  | _, [] => rfl
  | _, p :: l => by rw [xEe, List.length_cons, xM1 s p l, List.length_cons]
def xAj (x : Str) : List Str → List Str → Bool → List Str × Bool
  | [], nx, d => (nx, d)
  | y :: l, nx, d =>
    if d = false ∧ (Op.bytesLess x y || x == y) = true then xAj x l ((if Op.bytesLess x y = true then nx ++ [x] else nx) ++ [y]) true
    else xAj x l (nx ++ [y]) d
def xD3 (out : List Str) (x : Str) : List Str :=
  let r := xAj x out [] (x == [])
  if r.2 = false then r.1 ++ [x] else r.1
def pivL (l : List Str) : List Str := l.foldl xD3 []
theorem xD4 (x : Str) : ∀ (l nx : List Str) (d : Bool), (xAj x l nx d).1.length ≤ nx.length + l.length + (if d = true then 0 else if (xAj x l nx d).2 = true then 1 else 0)
  | [], nx, d => by simp [xAj]
  | y :: l, nx, d => by
    unfold xAj
    split
    · rename_i h
      have := xD4 x l ((if Op.bytesLess x y = true then nx ++ [x] else nx) ++ [y]) true
      have h2 : (xAj x l ((if Op.bytesLess x y = true then nx ++ [x] else nx) ++ [y]) true).2 = true := by
        have key : ∀ (l nx : List Str), (xAj x l nx true).2 = true := by
          intro l
          induction l with
          | nil => intro nx; rfl
          | cons z l ih => intro nx; unfold xAj; rw [if_neg (by simp)]; exact ih _
        exact key _ _
      rw [h2, h.1]
      simp only [if_true, List.length_append, List.length_cons, List.length_nil] at this ⊢
      split at this <;> simp_all <;> omega
    · have := xD4 x l (nx ++ [y]) d
      simp only [List.length_append, List.length_cons, List.length_nil] at this ⊢
      omega
theorem xKt (out : List Str) (x : Str) : (xD3 out x).length ≤ out.length + 1 := by
  have := xD4 x out [] (x == [])
  unfold xD3
  generalize (x == []) = d0 at this
  generalize xAj x out [] d0 = r at this
  obtain ⟨r1, r2⟩ := r
  simp only [List.length_nil] at this ⊢
  cases r2 <;> cases d0 <;> simp at this ⊢ <;> omega
end Go.Proofs
open Go.V Go.Pu
set_option linter.unusedVariables false
set_option linter.unusedSimpArgs false
set_option maxRecDepth 20000
namespace Go.Proofs
end Go.Proofs
open Go.V Go.Pu
set_option linter.unusedVariables false
set_option linter.unusedSimpArgs false
set_option maxRecDepth 20000
namespace Go.Proofs
def vc45 := vcm Tryz.prog 45
theorem vf45 : VF Tryz.prog 45 = some (10, vc45, [.tmp 4]) := by kernel_rfl
def vc64 := vcm Tryz.prog 64
theorem vf64 : VF Tryz.prog 64 = some (53, vc64, []) := by kernel_rfl
def vc77 := vcm Tryz.prog 77
theorem vf77 : VF Tryz.prog 77 = some (82, vc77, []) := by kernel_rfl
theorem xBj (a b : SpanL) : VC Tryz.prog 45 [.agg (encS a), .agg (encS b)] [] (.int .i64 (xCA a.lo b.lo)) [] := by
  refine vcs vf45 ?_
  repeat' first|refine sgo ?_|refine scn ?_|refine cv0 (xRZ _ _) ?_|refine sop ?_|refine xAC ⟨.inr rfl, ?_⟩|refine cnd (fun _ => ?_) (fun _ => ?_)|(refine xCT (fun _ => ?_) (fun _ => ?_) <;> first|refine cv0 (xRZ _ _) ?_|refine xAm ?_|refine sop ?_)
  all_goals exact oI rfl
abbrev srt (ys : Array SpanL) : List Blk := [blkV 2 (ys.toList.map encS)]
theorem xAa {zs : List SpanL} {i : Nat} {x : SpanL} {k : Nat} (h : zs[i]? = some x) (hk : k = i) : (blkV 2 (zs.map encS)).els[k]? = some (encS x) := by
  show (zs.map encS)[k]? = _
  rw [hk, List.getElem?_map, h]; rfl
set_option maxHeartbeats 1000000 in
theorem ins_vc {N n : Nat} (xs : List SpanL) (a b : Nat) (hN : xs.length = N) (ha : a ≤ n) (hb : b ≤ n) (hn : n ≤ N) (hm : N ≤ 1000000000) :
    VC Tryz.prog 64 [.own ⟨0, 0⟩ N 0 n, .int .i64 a, .int .i64 b, .fn 45 []] [blkV 2 (xs.map encS)] (.tup []) (srt (Sort.insertionSort ltS xs.toArray a b)) := by
  refine xCL vf64 ?_ (Nat.le_of_ble_eq_true rfl) (by intro vs h; cases h; simp)
  by_cases hab : a + 1 ≤ b
  case neg =>
    have hr : Sort.insertionSort ltS xs.toArray a b = xs.toArray := by unfold Sort.insertionSort; rw [Sort.insOuter, if_neg (by omega)]
    rw [hr]
    repeat first|refine sgo ?_|refine sop ?_
    refine xO3 1 ?_
    repeat first|refine sgo ?_|refine sop ?_
    refine cndf (xAE ?_) rfl (decide_eq_false (by omega))
    exact ⟨.inl rfl, oL1 rfl⟩
  repeat first|refine sgo ?_|refine sop ?_
  refine xAK (fun (g : Nat × List SpanL) => [(0, .own ⟨0, 0⟩ N 0 n), (1, .int .i64 a), (2, .int .i64 b), (3, .fn 45 []), (8, .int .i64 g.1)])
    (fun g => [(⟨0, 0⟩, blkV 2 (g.2.map encS))]) (fun g => b - g.1)
    (fun g => a + 1 ≤ g.1 ∧ g.1 ≤ b ∧ g.2.length = N ∧ Sort.insOuter ltS a b g.1 g.2.toArray = Sort.insertionSort ltS xs.toArray a b) (a + 1, xs) goes ⟨Nat.le_refl _, hab, hN, rfl⟩ ?_
  rintro ⟨i, ys⟩ ⟨hai, hib, hyl, hv⟩
  dsimp only at hai hib hyl hv ⊢
  rw [Sort.insOuter] at hv
  repeat first|refine sgo ?_|refine sop ?_
  refine cnd (fun h => xAB ?_) (fun h => xAE ?_)
  · have hlt : i < b := by have h' := of_decide_eq_true h; omega
    rw [if_pos hlt] at hv
    repeat first|refine sgo ?_|refine sop ?_
    refine xAK (fun (g : Nat × List SpanL) => [(0, .own ⟨0, 0⟩ N 0 n), (1, .int .i64 a), (2, .int .i64 b), (3, .fn 45 []), (8, .int .i64 i), (9, .int .i64 g.1)])
      (fun g => [(⟨0, 0⟩, blkV 2 (g.2.map encS))]) (fun g => g.1)
      (fun g => g.1 ≤ i ∧ g.2.length = N ∧ Sort.insInner ltS a g.1 g.2.toArray = Sort.insInner ltS a i ys.toArray) (i, ys) goes ⟨Nat.le_refl _, hyl, rfl⟩ ?_
    rintro ⟨j, zs⟩ ⟨hji, hzl, hw⟩
    dsimp only at hji hzl hw ⊢
    repeat first|refine sgo ?_|refine sop ?_
    by_cases hja : j > a
    · have hjd : decide ((j : Int) > a) = true := decide_eq_true (by omega)
      obtain ⟨m, rfl⟩ : ∃ m, j = m + 1 := ⟨j - 1, by omega⟩
      obtain ⟨x, hx⟩ : ∃ x, zs[m + 1]? = some x := ⟨_, List.getElem?_eq_getElem (by omega)⟩
      obtain ⟨y, hy⟩ : ∃ y, zs[m]? = some y := ⟨_, List.getElem?_eq_getElem (by omega)⟩
      have hx' := xAa (k := 0 + ((m + 1 : Nat) : Int).toNat) hx (by omega)
      have hy' := xAa (k := 0 + (((m + 1 : Nat) : Int) - 1).toNat) hy (by omega)
      have hk1 : 0 + ((m + 1 : Nat) : Int).toNat = m + 1 := by omega
      have hk2 : 0 + (((m + 1 : Nat) : Int) - 1).toNat = m := by omega
      rw [Sort.insInner, gb hx, gb hy] at hw
      repeat first|refine sgo ?_|refine xAL ?_|refine cv0 (xBj x y) ?_|refine sop ?_
      refine cnd (fun h2 => xAB ?_) (fun h2 => xAE ?_)
      · rw [if_pos (by simp [hja]; exact h2), xBv hx hy, ← hk1, ← hk2] at hw
        rw [hk2] at hw
        repeat first|refine sgo ?_|refine xAL ?_|refine o_v (vst encS y) ?_|refine o_v (vst encS x) ?_|refine sop ?_
        exact agn (m, (zs.set (0 + ((m + 1 : Nat) : Int).toNat) y).set (0 + (((m + 1 : Nat) : Int) - 1).toNat) x) ⟨by simp only; omega, by simp only [List.length_set]; omega, by rw [hk2]; exact hw⟩
          (goes (h1 := by refine ⟨rfl, rfl, rfl, rfl, rfl, congrArg (fun z => some (PV.int .i64 z)) (by omega : ((m + 1 : Nat) : Int) - 1 = m), trivial⟩))
      · rw [if_neg (by simp [h2, ltS])] at hw
        repeat first|refine sgo ?_|refine sop ?_
        exact agn (i + 1, zs) ⟨by simp only; omega, by simp only; omega, hzl, by simp only; rw [hw]; exact hv⟩ goes
    · have hjd : decide ((j : Int) > a) = false := decide_eq_false (by omega)
      have hz : Sort.insInner ltS a j zs.toArray = zs.toArray := by
        cases j with
        | zero => rfl
        | succ m => rw [Sort.insInner, if_neg (by simp; intro; omega)]
      rw [hz] at hw
      repeat first|refine sgo ?_|refine sop ?_
      refine cndf (xAE ?_)
      repeat first|refine sgo ?_|refine sop ?_
      exact agn (i + 1, zs) ⟨by simp only; omega, by simp only; omega, hzl, by simp only; rw [hw]; exact hv⟩ goes
  · have hge : ¬ i < b := by have h' := of_decide_eq_false h; omega
    rw [if_neg hge] at hv
    refine ⟨.inl rfl, oL1 ?_⟩
    rw [← hv]
set_option maxHeartbeats 1000000 in
theorem xNr {N n : Nat} (xs : List SpanL) (lo hi first : Nat) (hN : xs.length = N) (hf : first + hi ≤ n) (hlo : lo ≤ 1000000000) (hn : n ≤ N) (hm : N ≤ 1000000000) :
    VC Tryz.prog 77 [.own ⟨0, 0⟩ N 0 n, .int .i64 lo, .int .i64 hi, .int .i64 first, .fn 45 []] [blkV 2 (xs.map encS)] (.tup []) (srt (Sort.siftDown ltS hi first lo xs.toArray)) := by
  refine xCL vf77 ?_ (Nat.le_of_ble_eq_true rfl) (by intro vs h; cases h; simp)
  repeat first|refine sgo ?_|refine sop ?_
  refine xAK (fun (g : Nat × List SpanL) => [(0, .own ⟨0, 0⟩ N 0 n), (2, .int .i64 hi), (3, .int .i64 first), (4, .fn 45 []), (10, .int .i64 g.1)])
    (fun g => [(⟨0, 0⟩, blkV 2 (g.2.map encS))]) (fun g => hi - g.1)
    (fun g => g.1 ≤ 1000000000 ∧ g.2.length = N ∧ Sort.siftDown ltS hi first g.1 g.2.toArray = Sort.siftDown ltS hi first lo xs.toArray) (lo, xs) goes ⟨hlo, hN, rfl⟩ ?_
  rintro ⟨r, ys⟩ ⟨hr, hyl, hv⟩
  dsimp only at hr hyl hv ⊢
  rw [Sort.siftDown] at hv
  repeat first|refine sgo ?_|refine sop ?_
  by_cases h1 : 2 * r + 1 ≥ hi
  · rw [dif_pos h1] at hv
    refine cndt (xAE ?_) rfl (decide_eq_true (by omega))
    exact ⟨.inl rfl, oL1 (by rw [← hv])⟩
  · rw [dif_neg h1] at hv
    refine cndf (xAB ?_) rfl (decide_eq_false (by omega))
    obtain ⟨xr, hxr⟩ : ∃ x, ys[first + r]? = some x := ⟨_, List.getElem?_eq_getElem (by omega)⟩
    obtain ⟨xc, hxc⟩ : ∃ x, ys[first + (2 * r + 1)]? = some x := ⟨_, List.getElem?_eq_getElem (by omega)⟩
    have hk1 : 0 + ((first : Int) + (r : Int)).toNat = first + r := by omega
    have hk2 : 0 + ((first : Int) + (2 * (r : Int) + 1)).toNat = first + (2 * r + 1) := by omega
    have her := xAa hxr hk1
    have hec := xAa hxc hk2
    by_cases h2 : 2 * r + 1 + 1 < hi
    · have d2 : decide ((2 * (r : Int) + 1 + 1) < (hi : Int)) = true := decide_eq_true (by omega)
      obtain ⟨xd, hxd⟩ : ∃ x, ys[first + (2 * r + 1) + 1]? = some x := ⟨_, List.getElem?_eq_getElem (by omega)⟩
      have hk3 : 0 + ((first : Int) + (2 * (r : Int) + 1) + 1).toNat = first + (2 * r + 1) + 1 := by omega
      have hk4 : 0 + ((first : Int) + (2 * (r : Int) + 1 + 1)).toNat = first + (2 * r + 2) := by omega
      have hxd2 : ys[first + (2 * r + 2)]? = some xd := hxd
      have hed := xAa hxd hk3
      have hed2 := xAa hxd2 hk4
      rw [gb hxc, gb hxd, gb hxr, gb hxd2] at hv
      repeat first|refine sgo ?_|refine xAL ?_|refine cv0 (xBj xc xd) ?_|refine sop ?_
      refine cnd (fun h3 => ?_) (fun h3 => xAB ?_)
      · rw [if_pos (by simp [h2]; exact h3)] at hv
        repeat first|refine sgo ?_|refine xAL ?_|refine cv0 (xBj xr xd) ?_|refine sop ?_
        refine cnd (fun h4 => ?_) (fun h4 => xAB ?_)
        · rw [if_pos (by simpa [ltS] using h4)] at hv
          exact xAC ⟨.inr rfl, oL1 (by rw [← hv])⟩
        · rw [if_neg (by simpa [ltS] using h4), dif_pos (by omega), xBv hxr hxd2, ← hk1, ← hk4] at hv
          repeat first|refine sgo ?_|refine xAL ?_|refine o_v (vst encS xd) ?_|refine o_v (vst encS xr) ?_|refine sop ?_
          exact agn (2 * r + 2, (ys.set (0 + ((first : Int) + (r : Int)).toNat) xd).set (0 + ((first : Int) + (2 * (r : Int) + 1 + 1)).toNat) xr) ⟨by simp only; omega, by simp only [List.length_set]; omega, hv⟩
            (goes (h1 := by refine ⟨rfl, rfl, rfl, rfl, congrArg (fun z => some (PV.int .i64 z)) (by omega : 2 * (r : Int) + 1 + 1 = ((2 * r + 2 : Nat) : Int)), trivial⟩))
      · rw [if_neg (by simp; intro; simpa [ltS] using h3)] at hv
        repeat first|refine sgo ?_|refine xAL ?_|refine cv0 (xBj xr xc) ?_|refine sop ?_
        refine cnd (fun h4 => ?_) (fun h4 => xAB ?_)
        · rw [if_pos (by simpa [ltS] using h4)] at hv
          exact xAC ⟨.inr rfl, oL1 (by rw [← hv])⟩
        · rw [if_neg (by simpa [ltS] using h4), xBv hxr hxc, ← hk1, ← hk2] at hv
          repeat first|refine sgo ?_|refine xAL ?_|refine o_v (vst encS xc) ?_|refine o_v (vst encS xr) ?_|refine sop ?_
          exact agn (2 * r + 1, (ys.set (0 + ((first : Int) + (r : Int)).toNat) xc).set (0 + ((first : Int) + (2 * (r : Int) + 1)).toNat) xr) ⟨by simp only; omega, by simp only [List.length_set]; omega, hv⟩
            (goes (h1 := by refine ⟨rfl, rfl, rfl, rfl, congrArg (fun z => some (PV.int .i64 z)) (by omega : 2 * (r : Int) + 1 = ((2 * r + 1 : Nat) : Int)), trivial⟩))
    · have d2 : decide ((2 * (r : Int) + 1 + 1) < (hi : Int)) = false := decide_eq_false (by omega)
      rw [if_neg (by simp [h2]), gb hxr, gb hxc] at hv
      repeat first|refine sgo ?_|refine sop ?_
      refine cndf (xAB ?_)
      repeat first|refine sgo ?_|refine xAL ?_|refine cv0 (xBj xr xc) ?_|refine sop ?_
      refine cnd (fun h4 => ?_) (fun h4 => xAB ?_)
      · rw [if_pos (by simpa [ltS] using h4)] at hv
        exact xAC ⟨.inr rfl, oL1 (by rw [← hv])⟩
      · rw [if_neg (by simpa [ltS] using h4), xBv hxr hxc, ← hk1, ← hk2] at hv
        repeat first|refine sgo ?_|refine xAL ?_|refine o_v (vst encS xc) ?_|refine o_v (vst encS xr) ?_|refine sop ?_
        exact agn (2 * r + 1, (ys.set (0 + ((first : Int) + (r : Int)).toNat) xc).set (0 + ((first : Int) + (2 * (r : Int) + 1)).toNat) xr) ⟨by simp only; omega, by simp only [List.length_set]; omega, hv⟩
          (goes (h1 := by refine ⟨rfl, rfl, rfl, rfl, congrArg (fun z => some (PV.int .i64 z)) (by omega : 2 * (r : Int) + 1 = ((2 * r + 1 : Nat) : Int)), trivial⟩))
end Go.Proofs
open Go.V Go.Pu
set_option linter.unusedVariables false
set_option linter.unusedSimpArgs false
set_option maxRecDepth 20000
namespace Go.Proofs
def vc65 := vcm Tryz.prog 65
theorem vf65 : VF Tryz.prog 65 = some (60, vc65, []) := by kernel_rfl
theorem xIi {k : IntKind} {n m : Nat} {z : Int} (hz : z = n) (hm : 0 < m) (hw : k.wrap ((n / m : Nat) : Int) = ((n / m : Nat) : Int)) : bin .quo (.int k z) (.int k (m : Nat)) = some (.int k ((n / m : Nat) : Int)) := by
  subst hz
  have h1 : ((m : Nat) : Int) ≠ 0 := by omega
  have h2 : (n : Int).tdiv (m : Int) = ((n / m : Nat) : Int) := rfl
  simp only [bin, if_true, xEN, if_neg h1, h2, hw]
set_option maxHeartbeats 1000000 in
theorem xSv {N n : Nat} (xs : List SpanL) (a b : Nat) (hN : xs.length = N) (hab : a < b) (hb : b ≤ n) (hn : n ≤ N) (hm : N ≤ 1000000000) :
    VC Tryz.prog 65 [.own ⟨0, 0⟩ N 0 n, .int .i64 a, .int .i64 b, .fn 45 []] [blkV 2 (xs.map encS)] (.tup []) (srt (Sort.heapSort ltS xs.toArray a b)) := by
  refine xCL vf65 ?_ (Nat.le_of_ble_eq_true rfl) (by intro vs h; cases h; simp)
  have hq := xIi (k := .i64) (n := b - a - 1) (m := 2) (z := (b : Int) - a - 1) (by omega) (by omega) (xCK (by omega) (by omega))
  repeat first|refine sgo ?_|refine xBx hq ?_|refine sop ?_
  refine xAK (fun (g : Nat × List SpanL) => [(0, .own ⟨0, 0⟩ N 0 n), (3, .fn 45 []), (8, .int .i64 a), (9, .int .i64 0), (10, .int .i64 ((b : Int) - a)), (11, .int .i64 ((g.1 : Int) - 1))])
    (fun g => [(⟨0, 0⟩, blkV 2 (g.2.map encS))]) (fun g => g.1)
    (fun g => g.1 ≤ b - a ∧ g.2.length = N ∧ Sort.heapBuild ltS (b - a) a g.1 g.2.toArray = Sort.heapBuild ltS (b - a) a ((b - a - 1) / 2 + 1) xs.toArray) ((b - a - 1) / 2 + 1, xs)
    (goes (h1 := by refine ⟨rfl, rfl, rfl, rfl, rfl, congrArg (fun z => some (PV.int .i64 z)) (by omega), trivial⟩)) ⟨by omega, hN, rfl⟩ ?_
  rintro ⟨k, ys⟩ ⟨hk, hyl, hv⟩
  dsimp only at hk hyl hv ⊢
  repeat first|refine sgo ?_|refine sop ?_
  cases k with
  | succ k =>
    refine cndt (xAB ?_) rfl (decide_eq_true (by omega))
    rw [Sort.heapBuild] at hv
    have hs := xCe ltS (b - a) a k ys.toArray
    have hi : (((k + 1 : Nat) : Int) - 1) = (k : Nat) := by omega
    have hh : (b : Int) - a = ((b - a : Nat) : Int) := by omega
    have hc := xNr (n := n) ys k (b - a) a hyl (by omega) (by omega) hn hm
    rw [← hi, ← hh] at hc
    repeat first|refine sgo ?_|refine cl (lent := [⟨0, 0⟩]) hc ?_|refine sop ?_
    exact agn (k, (Sort.siftDown ltS (b - a) a k ys.toArray).toList) ⟨by simp only; omega, by simpa using hs.trans (by simpa using hyl), by simpa using hv⟩
      (goes (h1 := by refine ⟨rfl, rfl, rfl, rfl, rfl, congrArg (fun z => some (PV.int .i64 z)) (by omega : ((k + 1 : Nat) : Int) - 1 - 1 = (k : Int) - 1), trivial⟩))
  | zero =>
    refine cndf (xAE ?_) rfl (decide_eq_false (by omega))
    rw [Sort.heapBuild] at hv
    repeat first|refine sgo ?_|refine sop ?_
    refine xAK (fun (g : Nat × List SpanL) => [(0, .own ⟨0, 0⟩ N 0 n), (3, .fn 45 []), (8, .int .i64 a), (9, .int .i64 0), (12, .int .i64 ((g.1 : Int) - 1))])
      (fun g => [(⟨0, 0⟩, blkV 2 (g.2.map encS))]) (fun g => g.1)
      (fun g => g.1 ≤ b - a ∧ g.2.length = N ∧ Sort.heapPop ltS a g.1 g.2.toArray = Sort.heapSort ltS xs.toArray a b) (b - a, ys)
      (goes (h1 := by refine ⟨rfl, rfl, rfl, rfl, congrArg (fun z => some (PV.int .i64 z)) (by omega), trivial⟩)) ⟨by omega, hyl, by unfold Sort.heapSort; rw [hv]⟩ ?_
    rintro ⟨k, zs⟩ ⟨hk, hzl, hw⟩
    dsimp only at hk hzl hw ⊢
    repeat first|refine sgo ?_|refine sop ?_
    cases k with
    | succ k =>
      refine cndt (xAB ?_) rfl (decide_eq_true (by omega))
      rw [Sort.heapPop] at hw
      obtain ⟨x, hx⟩ : ∃ x, zs[a]? = some x := ⟨_, List.getElem?_eq_getElem (by omega)⟩
      obtain ⟨y, hy⟩ : ∃ y, zs[a + k]? = some y := ⟨_, List.getElem?_eq_getElem (by omega)⟩
      have hk1 : 0 + (a : Int).toNat = a := by omega
      have hk2 : 0 + ((a : Int) + (((k + 1 : Nat) : Int) - 1)).toNat = a + k := by omega
      have hx' := xAa hx hk1
      have hy' := xAa hy hk2
      rw [xBv hx hy] at hw
      have hi : (((k + 1 : Nat) : Int) - 1) = (k : Nat) := by omega
      have hzl2 : ((zs.set a y).set (a + k) x).length = N := by simp only [List.length_set]; exact hzl
      have hs := xCe ltS k a 0 ((zs.set a y).set (a + k) x).toArray
      have hc := xNr (n := n) ((zs.set a y).set (a + k) x) 0 k a hzl2 (by omega) (by omega) hn hm
      rw [← hi] at hc
      have hc' : VC Tryz.prog 77 [.own ⟨0, 0⟩ N 0 n, .int .i64 0, .int .i64 (((k + 1 : Nat) : Int) - 1), .int .i64 a, .fn 45 []] [blkV 2 (((zs.set (0 + (a : Int).toNat) y).set (0 + ((a : Int) + (((k + 1 : Nat) : Int) - 1)).toNat) x).map encS)] (.tup []) (srt (Sort.siftDown ltS k a 0 ((zs.set a y).set (a + k) x).toArray)) := by rw [hk1, hk2]; exact hc
      repeat first|refine sgo ?_|refine xAL ?_|refine o_v (vst encS y) ?_|refine o_v (vst encS x) ?_|refine cl (lent := [⟨0, 0⟩]) hc' ?_|refine sop ?_
      exact agn (k, (Sort.siftDown ltS k a 0 ((zs.set a y).set (a + k) x).toArray).toList) ⟨by simp only; omega, by simpa using hs.trans (by simpa using hzl), by simpa using hw⟩
        (goes (h1 := by refine ⟨rfl, rfl, rfl, rfl, congrArg (fun z => some (PV.int .i64 z)) (by omega : ((k + 1 : Nat) : Int) - 1 - 1 = (k : Int) - 1), trivial⟩))
    | zero =>
      refine cndf (xAE ?_) rfl (decide_eq_false (by omega))
      rw [Sort.heapPop] at hw
      exact ⟨.inl rfl, oL1 (by rw [← hw])⟩
end Go.Proofs
open Go.V Go.Pu
set_option linter.unusedVariables false
set_option linter.unusedSimpArgs false
set_option maxRecDepth 20000
namespace Go.Proofs
def vc58 := vcm Tryz.prog 58
theorem vf58 : VF Tryz.prog 58 = some (8, vc58, [.tmp 2]) := by kernel_rfl
def vc73 := vcm Tryz.prog 73
theorem vf73 : VF Tryz.prog 73 = some (25, vc73, [.tmp 2]) := by kernel_rfl
def vc78 := vcm Tryz.prog 78
theorem vf78 : VF Tryz.prog 78 = some (7, vc78, [.tmp 2]) := by kernel_rfl
def vc79 := vcm Tryz.prog 79
theorem vf79 : VF Tryz.prog 79 = some (33, vc79, [.tmp 2]) := by kernel_rfl
abbrev tab8 : List UInt8 := [0, 1, 2, 2, 3, 3, 3, 3, 4, 4, 4, 4, 4, 4, 4, 4, 5, 5, 5, 5, 5, 5, 5, 5, 5, 5, 5, 5, 5, 5, 5, 5, 6, 6, 6, 6, 6, 6, 6, 6, 6, 6, 6, 6, 6, 6, 6, 6, 6, 6, 6, 6, 6, 6, 6, 6, 6, 6, 6, 6, 6, 6, 6, 6, 7, 7, 7, 7, 7, 7, 7, 7, 7, 7, 7, 7, 7, 7, 7, 7, 7, 7, 7, 7, 7, 7, 7, 7, 7, 7, 7, 7, 7, 7, 7, 7, 7, 7, 7, 7, 7, 7, 7, 7, 7, 7, 7, 7, 7, 7, 7, 7, 7, 7, 7, 7, 7, 7, 7, 7, 7, 7, 7, 7, 7, 7, 7, 7, 8, 8, 8, 8, 8, 8, 8, 8, 8, 8, 8, 8, 8, 8, 8, 8, 8, 8, 8, 8, 8, 8, 8, 8, 8, 8, 8, 8, 8, 8, 8, 8, 8, 8, 8, 8, 8, 8, 8, 8, 8, 8, 8, 8, 8, 8, 8, 8, 8, 8, 8, 8, 8, 8, 8, 8, 8, 8, 8, 8, 8, 8, 8, 8, 8, 8, 8, 8, 8, 8, 8, 8, 8, 8, 8, 8, 8, 8, 8, 8, 8, 8, 8, 8, 8, 8, 8, 8, 8, 8, 8, 8, 8, 8, 8, 8, 8, 8, 8, 8, 8, 8, 8, 8, 8, 8, 8, 8, 8, 8, 8, 8, 8, 8, 8, 8, 8, 8, 8, 8, 8, 8, 8, 8, 8, 8, 8, 8]
def tabOk (n : Nat) : Bool := match tab8[n]? with | some c => c.toNat == Sort.bitsLen n | none => false
theorem xRu : (List.range 256).all tabOk = true := by decide +kernel
theorem xNX {n : Nat} (h : n < 256) : ∃ c : UInt8, tab8[n]? = some c ∧ c.toNat = Sort.bitsLen n := by
  have := List.all_eq_true.1 xRu n (List.mem_range.2 h)
  unfold tabOk at this
  cases hc : tab8[n]? with
  | none => rw [hc] at this; cases this
  | some c => rw [hc] at this; exact ⟨c, rfl, by simpa using this⟩
theorem xNJ {n : Nat} (h : 256 ≤ n) : Sort.bitsLen n = 8 + Sort.bitsLen (n / 256) := by
  unfold Sort.bitsLen
  have h1 : n ≠ 0 := by omega
  have h2 : n / 256 ≠ 0 := by omega
  rw [if_neg h1, if_neg h2]
  have h3 := (Nat.log2_eq_iff h2 (k := (n / 256).log2)).1 rfl
  have h4 : n.log2 = (n / 256).log2 + 8 := by
    refine (Nat.log2_eq_iff h1).2 ⟨?_, ?_⟩
    · rw [Nat.pow_add]; omega
    · rw [Nat.pow_succ] at h3
      rw [Nat.pow_succ, Nat.pow_add]; omega
  omega
theorem xPK {n : Nat} (h : n < 65536) : Sort.bitsLen n ≤ 16 := by
  unfold Sort.bitsLen
  split
  · omega
  · rename_i h0
    have : n.log2 < 16 := (Nat.log2_lt h0).2 (by simpa using h)
    omega
theorem xR8 {n : Nat} : bin .shr (.int .u64 (n : Nat)) (.int .u64 8) = some (.int .u64 ((n / 256 : Nat) : Int)) := by
  show (if (8 : Int) < 0 then none else some (PV.int .u64 ((n : Int).fdiv (2 ^ (Int.toNat 8))))) = _
  rw [if_neg (by decide), Int.fdiv_eq_ediv_of_nonneg _ (by decide)]
  rfl
theorem xQW {n : Nat} (hn : n < 65536) : VC Tryz.prog 73 [.int .u64 n] [] (.int .i64 (Sort.bitsLen n)) [] := by
  refine vcs vf73 ?_
  by_cases h : n < 256
  · obtain ⟨c, hc, hcl⟩ := xNX h
    have hc' : tab8[(n : Int).toNat]? = some c := hc
    have hcu : IntKind.u8.wrap (n : Int) = n := by unfold IntKind.wrap; simp [IntKind.bits, IntKind.signed]; omega
    have hci : IntKind.i64.wrap (c.toNat : Int) = c.toNat := xCK (by omega) (by have := c.toNat_lt; omega)
    have hcb : c.toNat < 256 := c.toNat_lt
    repeat first|refine sgo ?_|refine sop ?_
    refine cndf (xAB ?_) rfl (decide_eq_false (by omega))
    repeat first|refine sgo ?_|refine sop ?_
    refine cndf (xAB ?_) rfl (decide_eq_false (by omega))
    repeat first|refine sgo ?_|refine sop ?_
    refine cndf (xAB ?_) rfl (decide_eq_false (by omega))
    repeat first|refine sgo ?_|refine xBZ ?_|refine sop ?_
    refine xAC ⟨.inr rfl, oI ?_⟩
    rw [hcl]; omega
  · obtain ⟨c, hc, hcl⟩ := xNX (n := n / 256) (by omega)
    have hc' : tab8[((n / 256 : Nat) : Int).toNat]? = some c := hc
    have hcu : IntKind.u8.wrap ((n / 256 : Nat) : Int) = ((n / 256 : Nat) : Int) := by unfold IntKind.wrap; simp [IntKind.bits, IntKind.signed]; omega
    have hci : IntKind.i64.wrap (c.toNat : Int) = c.toNat := xCK (by omega) (by have := c.toNat_lt; omega)
    have hcb : c.toNat < 256 := c.toNat_lt
    have hb := xNJ (n := n) (by omega)
    repeat first|refine sgo ?_|refine sop ?_
    refine cndf (xAB ?_) rfl (decide_eq_false (by omega))
    repeat first|refine sgo ?_|refine sop ?_
    refine cndf (xAB ?_) rfl (decide_eq_false (by omega))
    repeat first|refine sgo ?_|refine sop ?_
    refine cndt ?_ rfl (decide_eq_true (by omega))
    repeat first|refine sgo ?_|refine xBx xR8 ?_|refine xBZ ?_|refine sop ?_
    refine xAC ⟨.inr rfl, oI ?_⟩
    rw [hcl, hb]; omega
theorem xRO {n : Nat} (hn : n < 65536) : VC Tryz.prog 58 [.int .u64 n] [] (.int .i64 (Sort.bitsLen n)) [] := by
  refine vcs vf58 ?_
  repeat first|refine sgo ?_|refine sop ?_
  refine cndf (xAB ?_) rfl rfl
  repeat first|refine sgo ?_|refine cv0 (xQW hn) ?_|refine sop ?_
  exact xAC ⟨.inr rfl, oI rfl⟩
theorem xR9 {k : Nat} (hk : k ≤ 16) : bin .shl (.int .u64 1) (.int .i64 k) = some (.int .u64 ((1 <<< k : Nat) : Int)) := by
  show (if (k : Int) < 0 then none else some (PV.int .u64 (IntKind.u64.wrap (1 * 2 ^ (min (Int.toNat k) 64))))) = _
  rw [if_neg (by omega)]
  have h1 : min (Int.toNat k) 64 = k := by omega
  have h2 : 2 ^ k ≤ 2 ^ 16 := Nat.pow_le_pow_right (by decide) hk
  rw [h1, Nat.one_shiftLeft]
  have h3 : (1 : Int) * 2 ^ k = ((2 ^ k : Nat) : Int) := by simp
  rw [h3]
  have : IntKind.u64.wrap ((2 ^ k : Nat) : Int) = ((2 ^ k : Nat) : Int) := by
    unfold IntKind.wrap
    have h4 : 2 ^ k < 2 ^ 64 := by omega
    generalize 2 ^ k = x at h4
    simp [IntKind.bits, IntKind.signed]
    omega
  rw [this]
theorem xSf {n : Nat} (hn : n < 65536) : VC Tryz.prog 78 [.int .i64 n] [] (.int .u64 ((1 <<< Sort.bitsLen n : Nat) : Int)) [] := by
  refine vcs vf78 ?_
  have hcu : IntKind.u64.wrap (n : Int) = n := by unfold IntKind.wrap; simp [IntKind.bits, IntKind.signed]; omega
  have hs := xR9 (xPK hn)
  repeat first|refine sgo ?_|refine xBZ ?_|refine cv0 (xRO hn) ?_|refine xBx hs ?_|refine sop ?_
  exact xAC ⟨.inr rfl, oI rfl⟩
theorem xOH (r : UInt64) : BitVec.ofInt 64 (r.toNat : Int) = r.toBitVec := by
  apply BitVec.eq_of_toNat_eq
  rw [BitVec.toNat_ofInt]
  have := r.toNat_lt
  have h : (r.toNat : Int) % ((2 ^ 64 : Nat) : Int) = (r.toNat : Int) := Int.emod_eq_of_lt (by omega) (by omega)
  rw [h]; rfl
theorem xGc {n : Nat} (h : n < 18446744073709551616) : IntKind.u64.wrap (n : Int) = n := by
  unfold IntKind.wrap; simp [IntKind.bits, IntKind.signed]; omega
theorem xKa (r s : UInt64) : bin .xor (.int .u64 r.toNat) (.int .u64 s.toNat) = some (.int .u64 (r ^^^ s).toNat) := by
  show some (PV.int .u64 (IntKind.u64.wrap (BitVec.ofInt 64 r.toNat ^^^ BitVec.ofInt 64 s.toNat).toNat)) = _
  rw [xOH, xOH, xGc (BitVec.isLt _)]
  rfl
theorem xNs (r : UInt64) (k : UInt64) (hk : k.toNat < 64) : bin .shl (.int .u64 r.toNat) (.int .u64 k.toNat) = some (.int .u64 (r <<< k).toNat) := by
  show (if ((k.toNat : Nat) : Int) < 0 then none else some (PV.int .u64 (IntKind.u64.wrap ((r.toNat : Int) * 2 ^ (min (Int.toNat k.toNat) 64))))) = _
  rw [if_neg (by omega)]
  have h1 : min (Int.toNat k.toNat) 64 = k.toNat := by omega
  have h2 : (r.toNat : Int) * 2 ^ k.toNat = ((r.toNat * 2 ^ k.toNat : Nat) : Int) := by simp
  rw [h1, h2]
  have h3 : IntKind.u64.wrap ((r.toNat * 2 ^ k.toNat : Nat) : Int) = ((r <<< k).toNat : Int) := by
    rw [UInt64.toNat_shiftLeft, Nat.mod_eq_of_lt hk, Nat.shiftLeft_eq]
    unfold IntKind.wrap; simp [IntKind.bits, IntKind.signed]
  rw [h3]
theorem xR7 (r : UInt64) (k : UInt64) (hk : k.toNat < 64) : bin .shr (.int .u64 r.toNat) (.int .u64 k.toNat) = some (.int .u64 (r >>> k).toNat) := by
  show (if ((k.toNat : Nat) : Int) < 0 then none else some (PV.int .u64 ((r.toNat : Int).fdiv (2 ^ (min (Int.toNat k.toNat) 64))))) = _
  rw [if_neg (by omega)]
  have h1 : min (Int.toNat k.toNat) 64 = k.toNat := by omega
  rw [h1]
  have h3 : (r.toNat : Int).fdiv (2 ^ k.toNat) = ((r >>> k).toNat : Int) := by
    rw [UInt64.toNat_shiftRight, Nat.mod_eq_of_lt hk, Nat.shiftRight_eq_div_pow, Int.fdiv_eq_ediv_of_nonneg _ (Int.pow_nonneg (by decide))]
    simp
  rw [h3]
theorem xSg (r : UInt64) : VC Tryz.prog 79 [.ptr ⟨0, 0⟩ 1 0 0] [⟨true, false, 1, [[.int .u64 r.toNat]]⟩] (.int .u64 (Sort.xorNext r).toNat) [⟨true, false, 1, [[.int .u64 (Sort.xorNext r).toNat]]⟩] := by
  refine vcs vf79 ?_
  have a1 := xNs r 13 (by decide)
  have a2 := xKa r (r <<< 13)
  have a3 := xR7 (r ^^^ (r <<< 13)) 7 (by decide)
  have a4 := xKa (r ^^^ (r <<< 13)) ((r ^^^ (r <<< 13)) >>> 7)
  have a5 := xNs ((r ^^^ (r <<< 13)) ^^^ ((r ^^^ (r <<< 13)) >>> 7)) 17 (by decide)
  have a6 := xKa ((r ^^^ (r <<< 13)) ^^^ ((r ^^^ (r <<< 13)) >>> 7)) (((r ^^^ (r <<< 13)) ^^^ ((r ^^^ (r <<< 13)) >>> 7)) <<< 17)
  repeat first|refine sgo ?_|refine xBx a1 ?_|refine xBx a2 ?_|refine xBx a3 ?_|refine xBx a4 ?_|refine xBx a5 ?_|refine xBx a6 ?_|refine sop ?_
  exact xAC ⟨.inr rfl, oX1 rfl⟩
end Go.Proofs
