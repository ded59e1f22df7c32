/- Sa -/
import Derived.Test.YtgkocobnccdocaaGreatVD
import Derived.Test.YtgkocobnccdocaaGreatProg
import Derived.Test.YtgkocobnccdocaaGreatPu
open Go.V Go.Pu
set_option linter.unusedVariables false
set_option linter.unusedSimpArgs false
set_option maxRecDepth 20000
namespace Go.Proofs
def vc161 := vcm Tryz.prog 161
theorem vf161 : VF Tryz.prog 161 = some (20, vc161, [.tmp 4]) := by kernel_rfl
def vc134 := vcm Tryz.prog 134
theorem vf134 : VF Tryz.prog 134 = some (13, vc134, [.tmp 2]) := by kernel_rfl
def vc181 := vcm Tryz.prog 181
theorem vf181 : VF Tryz.prog 181 = some (7, vc181, [.cell true 2 2]) := by kernel_rfl
def vc137 := vcm Tryz.prog 137
theorem vf137 : VF Tryz.prog 137 = some (18, vc137, [.tmp 4]) := by kernel_rfl
def vc175 := vcm Tryz.prog 175
theorem vf175 : VF Tryz.prog 175 = some (20, vc175, [.tmp 4]) := by kernel_rfl
def vc207 := vcm Tryz.prog 207
theorem vf207 : VF Tryz.prog 207 = some (6, vc207, [.tmp 2]) := by kernel_rfl
def vc59 := vcm Tryz.prog 59
theorem vf59 : VF Tryz.prog 59 = some (20, vc59, [.tmp 4]) := by kernel_rfl
def vc85 := vcm Tryz.prog 85
theorem vf85 : VF Tryz.prog 85 = some (6, vc85, [.tmp 2]) := by kernel_rfl
def vc209 := vcm Tryz.prog 209
theorem vf209 : VF Tryz.prog 209 = some (33, vc209, [.tmp 4]) := by kernel_rfl
def vc185 := vcm Tryz.prog 185
theorem vf185 : VF Tryz.prog 185 = some (5, vc185, [.tmp 2]) := by kernel_rfl
def vc156 := vcm Tryz.prog 156
theorem vf156 : VF Tryz.prog 156 = some (22, vc156, [.cell true 2 4]) := by kernel_rfl
def vc232 := vcm Tryz.prog 232
theorem vf232 : VF Tryz.prog 232 = some (18, vc232, [.tmp 4]) := by kernel_rfl
def vc226 := vcm Tryz.prog 226
theorem vf226 : VF Tryz.prog 226 = some (15, vc226, [.tmp 4, .tmp 5]) := by kernel_rfl
def vc220 := vcm Tryz.prog 220
theorem vf220 : VF Tryz.prog 220 = some (11, vc220, [.tmp 4, .tmp 5]) := by kernel_rfl
def vc208 := vcm Tryz.prog 208
theorem vf208 : VF Tryz.prog 208 = some (21, vc208, [.tmp 6, .tmp 7]) := by kernel_rfl
abbrev encS (s : SpanL) : List PV := [.str s.lo, .str s.hi]
theorem has_vc (s : SpanL) (k : Str) : VC Tryz.prog 161 [.agg (encS s), .str k] [] (.bool (hasL s k)) [] := by
  refine vcs vf161 ?_
  repeat' first|refine sgo ?_|refine scn ?_|refine sop ?_|refine xAC ⟨.inr rfl, ?_⟩|refine cnd (fun _ => ?_) (fun _ => ?_)|(refine xCH (fun _ => ?_) (fun _ => ?_) <;> first|refine xAP ?_|refine sop ?_)
  all_goals refine oB ?_
  all_goals simp_all [hasL]
theorem xGL (s : SpanL) : VC Tryz.prog 134 [.agg (encS s)] [] (.bool (xAK s)) [] := by
  refine vcs vf134 ?_
  repeat' first|refine sgo ?_|refine scn ?_|refine sop ?_|refine xAC ⟨.inr rfl, ?_⟩|refine cnd (fun _ => ?_) (fun _ => ?_)|(refine xCH (fun _ => ?_) (fun _ => ?_) <;> first|refine xAP ?_|refine sop ?_)
  all_goals refine oB ?_
  all_goals simp_all [xAK]
theorem xQV (k : Str) (hk : k.length ≤ 1000000000) : VC Tryz.prog 181 [.str k] [] (.agg (encS (oneL k))) [] := by
  refine vcs vf181 ?_
  repeat' first|refine sgo ?_|refine scn ?_|refine sop ?_|refine xAC ⟨.inr rfl, ?_⟩|refine cnd (fun _ => ?_) (fun _ => ?_)|(refine xCH (fun _ => ?_) (fun _ => ?_) <;> first|refine xAP ?_|refine sop ?_)
  all_goals exact oAny rfl
theorem xT9 (a : Str) : VC Tryz.prog 85 [.str a] [] (.bool false) [] := by
  refine vcs vf85 ?_
  repeat' first|refine sgo ?_|refine scn ?_|refine sop ?_|refine xAC ⟨.inr rfl, ?_⟩|refine cnd (fun _ => ?_) (fun _ => ?_)|(refine xCH (fun _ => ?_) (fun _ => ?_) <;> first|refine xAP ?_|refine sop ?_)
  all_goals refine oB ?_
  all_goals simp
theorem xQh (a : Str) : VC Tryz.prog 207 [.str a] [] (.bool false) [] := by
  refine vcs vf207 ?_
  repeat' first|refine sgo ?_|refine scn ?_|refine sop ?_|refine xAC ⟨.inr rfl, ?_⟩|refine cnd (fun _ => ?_) (fun _ => ?_)|(refine xCH (fun _ => ?_) (fun _ => ?_) <;> first|refine xAP ?_|refine sop ?_)
  all_goals refine oB ?_
  all_goals simp
theorem xRg (a b : Str) : VC Tryz.prog 59 [.str a, .str b] [] (.int .i64 (xBr a b)) [] := by
  refine vcs vf59 ?_
  repeat' first|refine sgo ?_|refine scn ?_|refine cv0 (xT9 _) ?_|refine sop ?_|refine xAC ⟨.inr rfl, ?_⟩|refine cnd (fun _ => ?_) (fun _ => ?_)|(refine xCH (fun _ => ?_) (fun _ => ?_) <;> first|refine cv0 (xT9 _) ?_|refine xAP ?_|refine sop ?_)
  all_goals refine oI ?_
  all_goals simp_all [xBr]
theorem xRj (a b : Str) : VC Tryz.prog 175 [.str a, .str b] [] (.int .i64 (xBr a b)) [] := by
  refine vcs vf175 ?_
  repeat' first|refine sgo ?_|refine scn ?_|refine cv0 (xQh _) ?_|refine sop ?_|refine xAC ⟨.inr rfl, ?_⟩|refine cnd (fun _ => ?_) (fun _ => ?_)|(refine xCH (fun _ => ?_) (fun _ => ?_) <;> first|refine cv0 (xQh _) ?_|refine xAP ?_|refine sop ?_)
  all_goals refine oI ?_
  all_goals simp_all [xBr]
theorem xFF (a b : Str) : VC Tryz.prog 137 [.str a, .str b] [] (.int .i64 (xEV a b)) [] := by
  refine vcs vf137 ?_
  repeat' first|refine sgo ?_|refine scn ?_|refine cv0 (xRj _ _) ?_|refine sop ?_|refine xAC ⟨.inr rfl, ?_⟩|refine cnd (fun _ => ?_) (fun _ => ?_)|(refine xCH (fun _ => ?_) (fun _ => ?_) <;> first|refine cv0 (xRj _ _) ?_|refine xAP ?_|refine sop ?_)
  all_goals refine oI ?_
  all_goals simp_all [xEV]
end Go.Proofs
open Go.V Go.Pu
set_option linter.unusedVariables false
set_option linter.unusedSimpArgs false
set_option maxRecDepth 20000
namespace Go.Proofs
theorem xJc (a b : Str) : VC Tryz.prog 209 [.sh false [[.str a], [.str b]], .fn 137 []] [] (.str (xCN a b)) [] := by
  refine vcs vf209 ?_
  repeat' first|refine sgo ?_|refine scn ?_|refine cv0 (xFF _ _) ?_|refine xRX 3 ?_|refine sop ?_|refine xAC ⟨.inr rfl, ?_⟩|refine cnd (fun _ => ?_) (fun _ => ?_)|(refine xCH (fun _ => ?_) (fun _ => ?_) <;> first|refine cv0 (xFF _ _) ?_|refine xRX 3 ?_|refine xAP ?_|refine sop ?_)
  all_goals refine oS ?_
  all_goals simp_all [xCN]
  all_goals omega
theorem xNu (a b : Str) : VC Tryz.prog 185 [.sh false [[.str a], [.str b]]] [] (.str (xCN a b)) [] := by
  refine vcs vf185 ?_
  repeat' first|refine sgo ?_|refine scn ?_|refine cv0 (xJc _ _) ?_|refine sop ?_|refine xAC ⟨.inr rfl, ?_⟩|refine cnd (fun _ => ?_) (fun _ => ?_)|(refine xCH (fun _ => ?_) (fun _ => ?_) <;> first|refine cv0 (xJc _ _) ?_|refine xAP ?_|refine sop ?_)
  all_goals exact oS rfl
theorem xVd (a b : SpanL) : VC Tryz.prog 156 [.agg (encS a), .agg (encS b)] [] (.agg (encS (xAd a b))) [] := by
  refine vcs vf156 ?_
  repeat' first|refine sgo ?_|refine scn ?_|refine cv0 (xNu a.hi b.hi) ?_|refine cv0 (xGL ⟨maxL a.lo b.lo, xCN a.hi b.hi⟩) ?_|refine sop ?_|refine xAC ⟨.inr rfl, ?_⟩|refine cnd (fun _ => ?_) (fun _ => ?_)|(refine xCH (fun _ => ?_) (fun _ => ?_) <;> first|refine cv0 (xNu a.hi b.hi) ?_|refine cv0 (xGL ⟨maxL a.lo b.lo, xCN a.hi b.hi⟩) ?_|refine xAP ?_|refine sop ?_)
  all_goals refine oC ?_
  all_goals simp_all [xAd, xH8]
  all_goals rfl
theorem xHB (k p : Str) (hk : k.length ≤ 1000000000) (hp : p.length ≤ 1000000000) : VC Tryz.prog 232 [.str k, .str p] [] (.bool (xAG k p)) [] := by
  refine vcs vf232 ?_
  repeat' first|refine sgo ?_|refine scn ?_|refine xFc ?_|refine sop ?_|refine xAC ⟨.inr rfl, ?_⟩|refine cnd (fun _ => ?_) (fun _ => ?_)|(refine xCH (fun _ => ?_) (fun _ => ?_) <;> first|refine xFc ?_|refine xAP ?_|refine sop ?_)
  all_goals refine oB ?_
  all_goals simp_all [xAG]
  all_goals omega
theorem xRV (k p : Str) (hk : k.length ≤ 1000000000) (hp : p.length ≤ 1000000000) : VC Tryz.prog 226 [.str k, .str p] [] (.tup [.str (if xAG k p = true then k.drop p.length else k), .bool (xAG k p)]) [] := by
  refine xBV vf226 ?_ (Nat.le_of_ble_eq_true rfl) (by intro vs h; cases h; intro p hp q; rcases List.mem_cons.1 hp with rfl | hp <;> simp_all)
  have hl : xAG k p = true → p.length ≤ k.length := fun h => by simp [xAG] at h; exact h.1
  repeat' first|refine sgo ?_|refine scn ?_|refine cv0 (xHB k p hk hp) ?_|refine xFc ?_|refine sop ?_|refine xAC ⟨.inr rfl, ?_⟩|refine cnd (fun _ => ?_) (fun _ => ?_)|(refine xCH (fun _ => ?_) (fun _ => ?_) <;> first|refine cv0 (xHB k p hk hp) ?_|refine xFc ?_|refine xAP ?_|refine sop ?_)
  all_goals refine oSB ?_
  all_goals simp_all
  all_goals (rw [List.take_of_length_le (by simp)])
theorem xUO (k p : Str) (hk : k.length ≤ 1000000000) (hp : p.length ≤ 1000000000) : VC Tryz.prog 220 [.str k, .str p] [] (.tup [.str (if xAG k p = true then k.drop p.length else k), .bool (xAG k p)]) [] := by
  refine xBV vf220 ?_ (Nat.le_of_ble_eq_true rfl) (by intro vs h; cases h; intro p hp q; rcases List.mem_cons.1 hp with rfl | hp <;> simp_all)
  repeat' first|refine sgo ?_|refine scn ?_|refine cv0 (xRV k p hk hp) ?_|refine sop ?_|refine xAC ⟨.inr rfl, ?_⟩|refine cnd (fun _ => ?_) (fun _ => ?_)|(refine xCH (fun _ => ?_) (fun _ => ?_) <;> first|refine cv0 (xRV k p hk hp) ?_|refine xAP ?_|refine sop ?_)
  all_goals exact oSB rfl
theorem xS0 (k f t : Str) (hk : k.length ≤ 1000000000) (hf : f.length ≤ 1000000000) (ht : t.length ≤ 1000000000) : VC Tryz.prog 208 [.str k, .str f, .str t] [] (.tup [.str (xDb k f t).1, .bool (xDb k f t).2]) [] := by
  refine xBV vf208 ?_ (Nat.le_of_ble_eq_true rfl) (by intro vs h; cases h; intro p hp q; rcases List.mem_cons.1 hp with rfl | hp <;> simp_all)
  by_cases hb : xAG k f = true
  · have hc := xUO k f hk hf
    rw [if_pos hb] at hc
    have hl : (k.drop f.length).length ≤ 1000000000 := by simp; omega
    repeat' first|refine sgo ?_|refine scn ?_|refine cv0 hc ?_|refine sop ?_|refine xAC ⟨.inr rfl, ?_⟩|refine cnd (fun _ => ?_) (fun _ => ?_)|(refine xCH (fun _ => ?_) (fun _ => ?_) <;> first|refine cv0 hc ?_|refine xAP ?_|refine sop ?_)
    all_goals refine oSB ?_
    all_goals simp_all [xDb]
  · have hc := xUO k f hk hf
    rw [if_neg hb] at hc
    repeat' first|refine sgo ?_|refine scn ?_|refine cv0 hc ?_|refine sop ?_|refine xAC ⟨.inr rfl, ?_⟩|refine cnd (fun _ => ?_) (fun _ => ?_)|(refine xCH (fun _ => ?_) (fun _ => ?_) <;> first|refine cv0 hc ?_|refine xAP ?_|refine sop ?_)
    all_goals refine oSB ?_
    all_goals simp_all [xDb]
end Go.Proofs
open Go.V Go.Pu
set_option linter.unusedVariables false
set_option linter.unusedSimpArgs false
set_option maxRecDepth 20000
namespace Go.Proofs
def vc182 := vcm Tryz.prog 182
theorem vf182 : VF Tryz.prog 182 = some (38, vc182, [.cell true 2 2]) := by kernel_rfl
theorem xSR {p : Str} {n : Nat} {c : UInt8} (h : n < p.length) : (p.set n c).take (n + 1) = p.take n ++ [c] := by
  rw [List.take_add_one, List.take_set, List.set_eq_of_length_le (by simp; omega)]
  simp [h]
set_option maxHeartbeats 1000000 in
theorem xCp (p : Str) (hp : p.length ≤ 1000000000) : VC Tryz.prog 182 [.str p] [] (.agg (encS (xAH p))) [] := by
  refine vcs vf182 ?_
  repeat first|refine sgo ?_|refine sop ?_
  refine xAE (fun (g : Nat) => [(0, .str p), (2, .ptr ⟨1, 0⟩ 1 0 0), (3, .own ⟨1, 8200⟩ (p.map encB).length 0 g)])
    (fun g => [(⟨1, 0⟩, ⟨true, false, 2, [[.str [], .str []]]⟩), (⟨1, 8200⟩, blkV 1 (p.map encB))]) (fun g => g)
    (fun g => g ≤ p.length ∧ xB1 p g = xB1 p p.length) p.length (goes (h1 := by refine ⟨rfl, rfl, ?_, trivial⟩; simp; rfl)) ⟨Nat.le_refl _, rfl⟩ ?_
  rintro n ⟨hn, hs⟩
  (try dsimp only)
  have hel : (p.map encB).length = p.length := List.length_map ..
  repeat first|refine sgo ?_|refine sop ?_
  refine xCH (fun hg => ?_) (fun hg => ?_)
  · have hpos : 0 < n := by have := of_decide_eq_true hg; omega
    obtain ⟨m, rfl⟩ : ∃ m, n = m + 1 := ⟨n - 1, by omega⟩
    obtain ⟨c, hc⟩ : ∃ c, p[m]? = some c := ⟨_, List.getElem?_eq_getElem (by omega)⟩
    have hce : (blkV 1 (p.map encB)).els[0 + (((m + 1 : Nat) : Int) - 1).toNat]? = some (encB c) := by
      rw [show 0 + (((m + 1 : Nat) : Int) - 1).toNat = m by omega]
      show (p.map encB)[m]? = _
      rw [List.getElem?_map, hc]; rfl
    repeat first|refine sgo ?_|refine xAJ ?_|refine sop ?_
    refine cnd (fun h => xAB ?_) (fun h => xAD ?_)
    · have hc255 : p[m]? = some 255 := by
        rw [hc]; congr 1
        have : (c.toNat : Int) = 255 := by simpa using h
        exact UInt8.toNat_inj.1 (by show c.toNat = 255; omega)
      repeat first|refine sgo ?_|refine xGe ?_|refine sop ?_
      refine agn m ⟨by omega, ?_⟩ (goes (h1 := by refine ⟨rfl, rfl, congrArg (fun x => some (PV.own ⟨1, 8200⟩ (p.map encB).length 0 x)) (?_ : (((m + 1 : Nat) : Int) - 1).toNat - Int.toNat 0 = m), trivial⟩; omega))
      rw [← hs, xB1, if_pos hc255]
    · have hne : ¬ p[m]? = some 255 := by
        rw [hc]
        intro e
        cases e
        exact absurd h (by decide)
      have hst : xB1 p (m + 1) = m + 1 := by rw [xB1, if_neg hne]
      repeat first|refine sgo ?_|refine sop ?_
      refine cndt ?_ rfl (decide_eq_true (by omega))
      have hw := xHj c
      have hset := xSR (p := p) (n := m) (c := c + 1) (by omega)
      have hmm : 0 + (((m + 1 : Nat) : Int) - 1).toNat = m := by omega
      have hb2 : (((p.set (0 + (((m + 1 : Nat) : Int) - 1).toNat) (c + 1)).map encB).drop 0).take (m + 1) = (p.take m ++ [c + 1]).map encB := by rw [hmm, List.drop_zero, ← List.map_take, hset]
      repeat first|refine sgo ?_|refine xAJ ?_|refine xT6 ?_|refine o_v (vst encB (c + 1)) ?_|refine xQa hb2 ?_|refine sop ?_
      refine xAC ⟨.inr rfl, oC ?_⟩
      have : upL p = p.take m ++ [c + 1] := by
        unfold upL
        rw [← hs, hst]
        simp [List.getD, hc]
      rw [show xAH p = ⟨p, upL p⟩ from rfl, this]
      rfl
  · have h0 : n = 0 := by have := of_decide_eq_false hg; omega
    subst h0
    repeat first|refine sgo ?_|refine sop ?_
    refine cndf (xAD ?_)
    repeat first|refine sgo ?_|refine sop ?_
    refine cndf (xAB ?_) rfl (by simp)
    have hb2 : (((p.map encB).drop 0).take 0) = ([] : Str).map encB := rfl
    repeat first|refine sgo ?_|refine xQa hb2 ?_|refine sop ?_
    refine xAC ⟨.inr rfl, oC ?_⟩
    have : upL p = [] := by
      unfold upL
      rw [← hs]
      rfl
    rw [show xAH p = ⟨p, upL p⟩ from rfl, this]
    rfl
end Go.Proofs
open Go.V Go.Pu
set_option linter.unusedVariables false
set_option linter.unusedSimpArgs false
set_option maxRecDepth 20000
namespace Go.Proofs
end Go.Proofs
open Go.V Go.Pu
set_option linter.unusedVariables false
set_option linter.unusedSimpArgs false
set_option maxRecDepth 20000
namespace Go.Proofs
end Go.Proofs
open Go.V Go.Pu
set_option linter.unusedVariables false
set_option linter.unusedSimpArgs false
set_option maxRecDepth 20000
namespace Go.Proofs
end Go.Proofs
open Go.V Go.Pu
set_option linter.unusedVariables false
set_option linter.unusedSimpArgs false
set_option maxRecDepth 20000
namespace Go.Proofs
def vc136 := vcm Tryz.prog 136
theorem vf136 : VF Tryz.prog 136 = some (10, vc136, [.tmp 4]) := by kernel_rfl
def vc197 := vcm Tryz.prog 197
theorem vf197 : VF Tryz.prog 197 = some (53, vc197, []) := by kernel_rfl
def vc215 := vcm Tryz.prog 215
theorem vf215 : VF Tryz.prog 215 = some (82, vc215, []) := by kernel_rfl
theorem xB5 (a b : SpanL) : VC Tryz.prog 136 [.agg (encS a), .agg (encS b)] [] (.int .i64 (xBr a.lo b.lo)) [] := by
  refine vcs vf136 ?_
  repeat' first|refine sgo ?_|refine scn ?_|refine cv0 (xRg _ _) ?_|refine sop ?_|refine xAC ⟨.inr rfl, ?_⟩|refine cnd (fun _ => ?_) (fun _ => ?_)|(refine xCH (fun _ => ?_) (fun _ => ?_) <;> first|refine cv0 (xRg _ _) ?_|refine xAP ?_|refine sop ?_)
  all_goals exact oI rfl
abbrev srt (ys : Array SpanL) : List Blk := [blkV 2 (ys.toList.map encS)]
theorem xAe {zs : List SpanL} {i : Nat} {x : SpanL} {k : Nat} (h : zs[i]? = some x) (hk : k = i) : (blkV 2 (zs.map encS)).els[k]? = some (encS x) := by
  show (zs.map encS)[k]? = _
  rw [hk, List.getElem?_map, h]; rfl
set_option maxHeartbeats 1000000 in
theorem ins_vc {N n : Nat} (xs : List SpanL) (a b : Nat) (hN : xs.length = N) (ha : a ≤ n) (hb : b ≤ n) (hn : n ≤ N) (hm : N ≤ 1000000000) :
    VC Tryz.prog 197 [.own ⟨0, 0⟩ N 0 n, .int .i64 a, .int .i64 b, .fn 136 []] [blkV 2 (xs.map encS)] (.tup []) (srt (Sort.insertionSort ltS xs.toArray a b)) := by
  refine xBV vf197 ?_ (Nat.le_of_ble_eq_true rfl) (by intro vs h; cases h; simp)
  by_cases hab : a + 1 ≤ b
  case neg =>
    have hr : Sort.insertionSort ltS xs.toArray a b = xs.toArray := by unfold Sort.insertionSort; rw [Sort.insOuter, if_neg (by omega)]
    rw [hr]
    repeat first|refine sgo ?_|refine sop ?_
    refine xRX 1 ?_
    repeat first|refine sgo ?_|refine sop ?_
    refine cndf (xAD ?_) rfl (decide_eq_false (by omega))
    exact ⟨.inl rfl, oL1 rfl⟩
  repeat first|refine sgo ?_|refine sop ?_
  refine xAE (fun (g : Nat × List SpanL) => [(0, .own ⟨0, 0⟩ N 0 n), (1, .int .i64 a), (2, .int .i64 b), (3, .fn 136 []), (8, .int .i64 g.1)])
    (fun g => [(⟨0, 0⟩, blkV 2 (g.2.map encS))]) (fun g => b - g.1)
    (fun g => a + 1 ≤ g.1 ∧ g.1 ≤ b ∧ g.2.length = N ∧ Sort.insOuter ltS a b g.1 g.2.toArray = Sort.insertionSort ltS xs.toArray a b) (a + 1, xs) goes ⟨Nat.le_refl _, hab, hN, rfl⟩ ?_
  rintro ⟨i, ys⟩ ⟨hai, hib, hyl, hv⟩
  dsimp only at hai hib hyl hv ⊢
  rw [Sort.insOuter] at hv
  repeat first|refine sgo ?_|refine sop ?_
  refine cnd (fun h => xAB ?_) (fun h => xAD ?_)
  · have hlt : i < b := by have h' := of_decide_eq_true h; omega
    rw [if_pos hlt] at hv
    repeat first|refine sgo ?_|refine sop ?_
    refine xAE (fun (g : Nat × List SpanL) => [(0, .own ⟨0, 0⟩ N 0 n), (1, .int .i64 a), (2, .int .i64 b), (3, .fn 136 []), (8, .int .i64 i), (9, .int .i64 g.1)])
      (fun g => [(⟨0, 0⟩, blkV 2 (g.2.map encS))]) (fun g => g.1)
      (fun g => g.1 ≤ i ∧ g.2.length = N ∧ Sort.insInner ltS a g.1 g.2.toArray = Sort.insInner ltS a i ys.toArray) (i, ys) goes ⟨Nat.le_refl _, hyl, rfl⟩ ?_
    rintro ⟨j, zs⟩ ⟨hji, hzl, hw⟩
    dsimp only at hji hzl hw ⊢
    repeat first|refine sgo ?_|refine sop ?_
    by_cases hja : j > a
    · have hjd : decide ((j : Int) > a) = true := decide_eq_true (by omega)
      obtain ⟨m, rfl⟩ : ∃ m, j = m + 1 := ⟨j - 1, by omega⟩
      obtain ⟨x, hx⟩ : ∃ x, zs[m + 1]? = some x := ⟨_, List.getElem?_eq_getElem (by omega)⟩
      obtain ⟨y, hy⟩ : ∃ y, zs[m]? = some y := ⟨_, List.getElem?_eq_getElem (by omega)⟩
      have hx' := xAe (k := 0 + ((m + 1 : Nat) : Int).toNat) hx (by omega)
      have hy' := xAe (k := 0 + (((m + 1 : Nat) : Int) - 1).toNat) hy (by omega)
      have hk1 : 0 + ((m + 1 : Nat) : Int).toNat = m + 1 := by omega
      have hk2 : 0 + (((m + 1 : Nat) : Int) - 1).toNat = m := by omega
      rw [Sort.insInner, gb hx, gb hy] at hw
      repeat first|refine sgo ?_|refine xAJ ?_|refine cv0 (xB5 x y) ?_|refine sop ?_
      refine cnd (fun h2 => xAB ?_) (fun h2 => xAD ?_)
      · rw [if_pos (by simp [hja]; exact h2), xCK hx hy, ← hk1, ← hk2] at hw
        rw [hk2] at hw
        repeat first|refine sgo ?_|refine xAJ ?_|refine o_v (vst encS y) ?_|refine o_v (vst encS x) ?_|refine sop ?_
        exact agn (m, (zs.set (0 + ((m + 1 : Nat) : Int).toNat) y).set (0 + (((m + 1 : Nat) : Int) - 1).toNat) x) ⟨by simp only; omega, by simp only [List.length_set]; omega, by rw [hk2]; exact hw⟩
          (goes (h1 := by refine ⟨rfl, rfl, rfl, rfl, rfl, congrArg (fun z => some (PV.int .i64 z)) (by omega : ((m + 1 : Nat) : Int) - 1 = m), trivial⟩))
      · rw [if_neg (by simp [h2, ltS])] at hw
        repeat first|refine sgo ?_|refine sop ?_
        exact agn (i + 1, zs) ⟨by simp only; omega, by simp only; omega, hzl, by simp only; rw [hw]; exact hv⟩ goes
    · have hjd : decide ((j : Int) > a) = false := decide_eq_false (by omega)
      have hz : Sort.insInner ltS a j zs.toArray = zs.toArray := by
        cases j with
        | zero => rfl
        | succ m => rw [Sort.insInner, if_neg (by simp; intro; omega)]
      rw [hz] at hw
      repeat first|refine sgo ?_|refine sop ?_
      refine cndf (xAD ?_)
      repeat first|refine sgo ?_|refine sop ?_
      exact agn (i + 1, zs) ⟨by simp only; omega, by simp only; omega, hzl, by simp only; rw [hw]; exact hv⟩ goes
  · have hge : ¬ i < b := by have h' := of_decide_eq_false h; omega
    rw [if_neg hge] at hv
    refine ⟨.inl rfl, oL1 ?_⟩
    rw [← hv]
set_option maxHeartbeats 1000000 in
theorem xPt {N n : Nat} (xs : List SpanL) (lo hi first : Nat) (hN : xs.length = N) (hf : first + hi ≤ n) (hlo : lo ≤ 1000000000) (hn : n ≤ N) (hm : N ≤ 1000000000) :
    VC Tryz.prog 215 [.own ⟨0, 0⟩ N 0 n, .int .i64 lo, .int .i64 hi, .int .i64 first, .fn 136 []] [blkV 2 (xs.map encS)] (.tup []) (srt (Sort.siftDown ltS hi first lo xs.toArray)) := by
  refine xBV vf215 ?_ (Nat.le_of_ble_eq_true rfl) (by intro vs h; cases h; simp)
  repeat first|refine sgo ?_|refine sop ?_
  refine xAE (fun (g : Nat × List SpanL) => [(0, .own ⟨0, 0⟩ N 0 n), (2, .int .i64 hi), (3, .int .i64 first), (4, .fn 136 []), (10, .int .i64 g.1)])
    (fun g => [(⟨0, 0⟩, blkV 2 (g.2.map encS))]) (fun g => hi - g.1)
    (fun g => g.1 ≤ 1000000000 ∧ g.2.length = N ∧ Sort.siftDown ltS hi first g.1 g.2.toArray = Sort.siftDown ltS hi first lo xs.toArray) (lo, xs) goes ⟨hlo, hN, rfl⟩ ?_
  rintro ⟨r, ys⟩ ⟨hr, hyl, hv⟩
  dsimp only at hr hyl hv ⊢
  rw [Sort.siftDown] at hv
  repeat first|refine sgo ?_|refine sop ?_
  by_cases h1 : 2 * r + 1 ≥ hi
  · rw [dif_pos h1] at hv
    refine cndt (xAD ?_) rfl (decide_eq_true (by omega))
    exact ⟨.inl rfl, oL1 (by rw [← hv])⟩
  · rw [dif_neg h1] at hv
    refine cndf (xAB ?_) rfl (decide_eq_false (by omega))
    obtain ⟨xr, hxr⟩ : ∃ x, ys[first + r]? = some x := ⟨_, List.getElem?_eq_getElem (by omega)⟩
    obtain ⟨xc, hxc⟩ : ∃ x, ys[first + (2 * r + 1)]? = some x := ⟨_, List.getElem?_eq_getElem (by omega)⟩
    have hk1 : 0 + ((first : Int) + (r : Int)).toNat = first + r := by omega
    have hk2 : 0 + ((first : Int) + (2 * (r : Int) + 1)).toNat = first + (2 * r + 1) := by omega
    have her := xAe hxr hk1
    have hec := xAe hxc hk2
    by_cases h2 : 2 * r + 1 + 1 < hi
    · have d2 : decide ((2 * (r : Int) + 1 + 1) < (hi : Int)) = true := decide_eq_true (by omega)
      obtain ⟨xd, hxd⟩ : ∃ x, ys[first + (2 * r + 1) + 1]? = some x := ⟨_, List.getElem?_eq_getElem (by omega)⟩
      have hk3 : 0 + ((first : Int) + (2 * (r : Int) + 1) + 1).toNat = first + (2 * r + 1) + 1 := by omega
      have hk4 : 0 + ((first : Int) + (2 * (r : Int) + 1 + 1)).toNat = first + (2 * r + 2) := by omega
      have hxd2 : ys[first + (2 * r + 2)]? = some xd := hxd
      have hed := xAe hxd hk3
      have hed2 := xAe hxd2 hk4
      rw [gb hxc, gb hxd, gb hxr, gb hxd2] at hv
      repeat first|refine sgo ?_|refine xAJ ?_|refine cv0 (xB5 xc xd) ?_|refine sop ?_
      refine cnd (fun h3 => ?_) (fun h3 => xAB ?_)
      · rw [if_pos (by simp [h2]; exact h3)] at hv
        repeat first|refine sgo ?_|refine xAJ ?_|refine cv0 (xB5 xr xd) ?_|refine sop ?_
        refine cnd (fun h4 => ?_) (fun h4 => xAB ?_)
        · rw [if_pos (by simpa [ltS] using h4)] at hv
          exact xAC ⟨.inr rfl, oL1 (by rw [← hv])⟩
        · rw [if_neg (by simpa [ltS] using h4), dif_pos (by omega), xCK hxr hxd2, ← hk1, ← hk4] at hv
          repeat first|refine sgo ?_|refine xAJ ?_|refine o_v (vst encS xd) ?_|refine o_v (vst encS xr) ?_|refine sop ?_
          exact agn (2 * r + 2, (ys.set (0 + ((first : Int) + (r : Int)).toNat) xd).set (0 + ((first : Int) + (2 * (r : Int) + 1 + 1)).toNat) xr) ⟨by simp only; omega, by simp only [List.length_set]; omega, hv⟩
            (goes (h1 := by refine ⟨rfl, rfl, rfl, rfl, congrArg (fun z => some (PV.int .i64 z)) (by omega : 2 * (r : Int) + 1 + 1 = ((2 * r + 2 : Nat) : Int)), trivial⟩))
      · rw [if_neg (by simp; intro; simpa [ltS] using h3)] at hv
        repeat first|refine sgo ?_|refine xAJ ?_|refine cv0 (xB5 xr xc) ?_|refine sop ?_
        refine cnd (fun h4 => ?_) (fun h4 => xAB ?_)
        · rw [if_pos (by simpa [ltS] using h4)] at hv
          exact xAC ⟨.inr rfl, oL1 (by rw [← hv])⟩
        · rw [if_neg (by simpa [ltS] using h4), xCK hxr hxc, ← hk1, ← hk2] at hv
          repeat first|refine sgo ?_|refine xAJ ?_|refine o_v (vst encS xc) ?_|refine o_v (vst encS xr) ?_|refine sop ?_
          exact agn (2 * r + 1, (ys.set (0 + ((first : Int) + (r : Int)).toNat) xc).set (0 + ((first : Int) + (2 * (r : Int) + 1)).toNat) xr) ⟨by simp only; omega, by simp only [List.length_set]; omega, hv⟩
            (goes (h1 := by refine ⟨rfl, rfl, rfl, rfl, congrArg (fun z => some (PV.int .i64 z)) (by omega : 2 * (r : Int) + 1 = ((2 * r + 1 : Nat) : Int)), trivial⟩))
    · have d2 : decide ((2 * (r : Int) + 1 + 1) < (hi : Int)) = false := decide_eq_false (by omega)
      rw [if_neg (by simp [h2]), gb hxr, gb hxc] at hv
      repeat first|refine sgo ?_|refine sop ?_
      refine cndf (xAB ?_)
      repeat first|refine sgo ?_|refine xAJ ?_|refine cv0 (xB5 xr xc) ?_|refine sop ?_
      refine cnd (fun h4 => ?_) (fun h4 => xAB ?_)
      · rw [if_pos (by simpa [ltS] using h4)] at hv
        exact xAC ⟨.inr rfl, oL1 (by rw [← hv])⟩
      · rw [if_neg (by simpa [ltS] using h4), xCK hxr hxc, ← hk1, ← hk2] at hv
        repeat first|refine sgo ?_|refine xAJ ?_|refine o_v (vst encS xc) ?_|refine o_v (vst encS xr) ?_|refine sop ?_
        exact agn (2 * r + 1, (ys.set (0 + ((first : Int) + (r : Int)).toNat) xc).set (0 + ((first : Int) + (2 * (r : Int) + 1)).toNat) xr) ⟨by simp only; omega, by simp only [List.length_set]; omega, hv⟩
          (goes (h1 := by refine ⟨rfl, rfl, rfl, rfl, congrArg (fun z => some (PV.int .i64 z)) (by omega : 2 * (r : Int) + 1 = ((2 * r + 1 : Nat) : Int)), trivial⟩))
end Go.Proofs
open Go.V Go.Pu
set_option linter.unusedVariables false
set_option linter.unusedSimpArgs false
set_option maxRecDepth 20000
namespace Go.Proofs
def vc198 := vcm Tryz.prog 198
theorem vf198 : VF Tryz.prog 198 = some (60, vc198, []) := by kernel_rfl
theorem xKG {k : IntKind} {n m : Nat} {z : Int} (hz : z = n) (hm : 0 < m) (hw : k.wrap ((n / m : Nat) : Int) = ((n / m : Nat) : Int)) : bin .quo (.int k z) (.int k (m : Nat)) = some (.int k ((n / m : Nat) : Int)) := by
  subst hz
  have h1 : ((m : Nat) : Int) ≠ 0 := by omega
  have h2 : (n : Int).tdiv (m : Int) = ((n / m : Nat) : Int) := rfl
  simp only [bin, if_true, xEx, if_neg h1, h2, hw]
set_option maxHeartbeats 1000000 in
theorem xVv {N n : Nat} (xs : List SpanL) (a b : Nat) (hN : xs.length = N) (hab : a < b) (hb : b ≤ n) (hn : n ≤ N) (hm : N ≤ 1000000000) :
    VC Tryz.prog 198 [.own ⟨0, 0⟩ N 0 n, .int .i64 a, .int .i64 b, .fn 136 []] [blkV 2 (xs.map encS)] (.tup []) (srt (Sort.heapSort ltS xs.toArray a b)) := by
  refine xBV vf198 ?_ (Nat.le_of_ble_eq_true rfl) (by intro vs h; cases h; simp)
  have hq := xKG (k := .i64) (n := b - a - 1) (m := 2) (z := (b : Int) - a - 1) (by omega) (by omega) (xB0 (by omega) (by omega))
  repeat first|refine sgo ?_|refine xBE hq ?_|refine sop ?_
  refine xAE (fun (g : Nat × List SpanL) => [(0, .own ⟨0, 0⟩ N 0 n), (3, .fn 136 []), (8, .int .i64 a), (9, .int .i64 0), (10, .int .i64 ((b : Int) - a)), (11, .int .i64 ((g.1 : Int) - 1))])
    (fun g => [(⟨0, 0⟩, blkV 2 (g.2.map encS))]) (fun g => g.1)
    (fun g => g.1 ≤ b - a ∧ g.2.length = N ∧ Sort.heapBuild ltS (b - a) a g.1 g.2.toArray = Sort.heapBuild ltS (b - a) a ((b - a - 1) / 2 + 1) xs.toArray) ((b - a - 1) / 2 + 1, xs)
    (goes (h1 := by refine ⟨rfl, rfl, rfl, rfl, rfl, congrArg (fun z => some (PV.int .i64 z)) (by omega), trivial⟩)) ⟨by omega, hN, rfl⟩ ?_
  rintro ⟨k, ys⟩ ⟨hk, hyl, hv⟩
  dsimp only at hk hyl hv ⊢
  repeat first|refine sgo ?_|refine sop ?_
  cases k with
  | succ k =>
    refine cndt (xAB ?_) rfl (decide_eq_true (by omega))
    rw [Sort.heapBuild] at hv
    have hs := xC3 ltS (b - a) a k ys.toArray
    have hi : (((k + 1 : Nat) : Int) - 1) = (k : Nat) := by omega
    have hh : (b : Int) - a = ((b - a : Nat) : Int) := by omega
    have hc := xPt (n := n) ys k (b - a) a hyl (by omega) (by omega) hn hm
    rw [← hi, ← hh] at hc
    repeat first|refine sgo ?_|refine cl (lent := [⟨0, 0⟩]) hc ?_|refine sop ?_
    exact agn (k, (Sort.siftDown ltS (b - a) a k ys.toArray).toList) ⟨by simp only; omega, by simpa using hs.trans (by simpa using hyl), by simpa using hv⟩
      (goes (h1 := by refine ⟨rfl, rfl, rfl, rfl, rfl, congrArg (fun z => some (PV.int .i64 z)) (by omega : ((k + 1 : Nat) : Int) - 1 - 1 = (k : Int) - 1), trivial⟩))
  | zero =>
    refine cndf (xAD ?_) rfl (decide_eq_false (by omega))
    rw [Sort.heapBuild] at hv
    repeat first|refine sgo ?_|refine sop ?_
    refine xAE (fun (g : Nat × List SpanL) => [(0, .own ⟨0, 0⟩ N 0 n), (3, .fn 136 []), (8, .int .i64 a), (9, .int .i64 0), (12, .int .i64 ((g.1 : Int) - 1))])
      (fun g => [(⟨0, 0⟩, blkV 2 (g.2.map encS))]) (fun g => g.1)
      (fun g => g.1 ≤ b - a ∧ g.2.length = N ∧ Sort.heapPop ltS a g.1 g.2.toArray = Sort.heapSort ltS xs.toArray a b) (b - a, ys)
      (goes (h1 := by refine ⟨rfl, rfl, rfl, rfl, congrArg (fun z => some (PV.int .i64 z)) (by omega), trivial⟩)) ⟨by omega, hyl, by unfold Sort.heapSort; rw [hv]⟩ ?_
    rintro ⟨k, zs⟩ ⟨hk, hzl, hw⟩
    dsimp only at hk hzl hw ⊢
    repeat first|refine sgo ?_|refine sop ?_
    cases k with
    | succ k =>
      refine cndt (xAB ?_) rfl (decide_eq_true (by omega))
      rw [Sort.heapPop] at hw
      obtain ⟨x, hx⟩ : ∃ x, zs[a]? = some x := ⟨_, List.getElem?_eq_getElem (by omega)⟩
      obtain ⟨y, hy⟩ : ∃ y, zs[a + k]? = some y := ⟨_, List.getElem?_eq_getElem (by omega)⟩
      have hk1 : 0 + (a : Int).toNat = a := by omega
      have hk2 : 0 + ((a : Int) + (((k + 1 : Nat) : Int) - 1)).toNat = a + k := by omega
      have hx' := xAe hx hk1
      have hy' := xAe hy hk2
      rw [xCK hx hy] at hw
      have hi : (((k + 1 : Nat) : Int) - 1) = (k : Nat) := by omega
      have hzl2 : ((zs.set a y).set (a + k) x).length = N := by simp only [List.length_set]; exact hzl
      have hs := xC3 ltS k a 0 ((zs.set a y).set (a + k) x).toArray
      have hc := xPt (n := n) ((zs.set a y).set (a + k) x) 0 k a hzl2 (by omega) (by omega) hn hm
      rw [← hi] at hc
      have hc' : VC Tryz.prog 215 [.own ⟨0, 0⟩ N 0 n, .int .i64 0, .int .i64 (((k + 1 : Nat) : Int) - 1), .int .i64 a, .fn 136 []] [blkV 2 (((zs.set (0 + (a : Int).toNat) y).set (0 + ((a : Int) + (((k + 1 : Nat) : Int) - 1)).toNat) x).map encS)] (.tup []) (srt (Sort.siftDown ltS k a 0 ((zs.set a y).set (a + k) x).toArray)) := by rw [hk1, hk2]; exact hc
      repeat first|refine sgo ?_|refine xAJ ?_|refine o_v (vst encS y) ?_|refine o_v (vst encS x) ?_|refine cl (lent := [⟨0, 0⟩]) hc' ?_|refine sop ?_
      exact agn (k, (Sort.siftDown ltS k a 0 ((zs.set a y).set (a + k) x).toArray).toList) ⟨by simp only; omega, by simpa using hs.trans (by simpa using hzl), by simpa using hw⟩
        (goes (h1 := by refine ⟨rfl, rfl, rfl, rfl, congrArg (fun z => some (PV.int .i64 z)) (by omega : ((k + 1 : Nat) : Int) - 1 - 1 = (k : Int) - 1), trivial⟩))
    | zero =>
      refine cndf (xAD ?_) rfl (decide_eq_false (by omega))
      rw [Sort.heapPop] at hw
      exact ⟨.inl rfl, oL1 (by rw [← hw])⟩
end Go.Proofs
open Go.V Go.Pu
set_option linter.unusedVariables false
set_option linter.unusedSimpArgs false
set_option maxRecDepth 20000
namespace Go.Proofs
def vc174 := vcm Tryz.prog 174
theorem vf174 : VF Tryz.prog 174 = some (8, vc174, [.tmp 2]) := by kernel_rfl
def vc206 := vcm Tryz.prog 206
theorem vf206 : VF Tryz.prog 206 = some (25, vc206, [.tmp 2]) := by kernel_rfl
def vc216 := vcm Tryz.prog 216
theorem vf216 : VF Tryz.prog 216 = some (7, vc216, [.tmp 2]) := by kernel_rfl
def vc217 := vcm Tryz.prog 217
theorem vf217 : VF Tryz.prog 217 = some (33, vc217, [.tmp 2]) := by kernel_rfl
abbrev tab8 : List UInt8 := [0, 1, 2, 2, 3, 3, 3, 3, 4, 4, 4, 4, 4, 4, 4, 4, 5, 5, 5, 5, 5, 5, 5, 5, 5, 5, 5, 5, 5, 5, 5, 5, 6, 6, 6, 6, 6, 6, 6, 6, 6, 6, 6, 6, 6, 6, 6, 6, 6, 6, 6, 6, 6, 6, 6, 6, 6, 6, 6, 6, 6, 6, 6, 6, 7, 7, 7, 7, 7, 7, 7, 7, 7, 7, 7, 7, 7, 7, 7, 7, 7, 7, 7, 7, 7, 7, 7, 7, 7, 7, 7, 7, 7, 7, 7, 7, 7, 7, 7, 7, 7, 7, 7, 7, 7, 7, 7, 7, 7, 7, 7, 7, 7, 7, 7, 7, 7, 7, 7, 7, 7, 7, 7, 7, 7, 7, 7, 7, 8, 8, 8, 8, 8, 8, 8, 8, 8, 8, 8, 8, 8, 8, 8, 8, 8, 8, 8, 8, 8, 8, 8, 8, 8, 8, 8, 8, 8, 8, 8, 8, 8, 8, 8, 8, 8, 8, 8, 8, 8, 8, 8, 8, 8, 8, 8, 8, 8, 8, 8, 8, 8, 8, 8, 8, 8, 8, 8, 8, 8, 8, 8, 8, 8, 8, 8, 8, 8, 8, 8, 8, 8, 8, 8, 8, 8, 8, 8, 8, 8, 8, 8, 8, 8, 8, 8, 8, 8, 8, 8, 8, 8, 8, 8, 8, 8, 8, 8, 8, 8, 8, 8, 8, 8, 8, 8, 8, 8, 8, 8, 8, 8, 8, 8, 8, 8, 8, 8, 8, 8, 8, 8, 8, 8, 8, 8, 8]
def tabOk (n : Nat) : Bool := match tab8[n]? with | some c => c.toNat == Sort.bitsLen n | none => false
theorem xUo : (List.range 256).all tabOk = true := by decide +kernel
theorem xPV {n : Nat} (h : n < 256) : ∃ c : UInt8, tab8[n]? = some c ∧ c.toNat = Sort.bitsLen n := by
  have := List.all_eq_true.1 xUo n (List.mem_range.2 h)
  unfold tabOk at this
  cases hc : tab8[n]? with
  | none => rw [hc] at this; cases this
  | some c => rw [hc] at this; exact ⟨c, rfl, by simpa using this⟩
theorem xPA {n : Nat} (h : 256 ≤ n) : Sort.bitsLen n = 8 + Sort.bitsLen (n / 256) := by
  unfold Sort.bitsLen
  have h1 : n ≠ 0 := by omega
  have h2 : n / 256 ≠ 0 := by omega
  rw [if_neg h1, if_neg h2]
  have h3 := (Nat.log2_eq_iff h2 (k := (n / 256).log2)).1 rfl
  have h4 : n.log2 = (n / 256).log2 + 8 := by
    refine (Nat.log2_eq_iff h1).2 ⟨?_, ?_⟩
    · rw [Nat.pow_add]; omega
    · rw [Nat.pow_succ] at h3
      rw [Nat.pow_succ, Nat.pow_add]; omega
  omega
theorem xRu {n : Nat} (h : n < 65536) : Sort.bitsLen n ≤ 16 := by
  unfold Sort.bitsLen
  split
  · omega
  · rename_i h0
    have : n.log2 < 16 := (Nat.log2_lt h0).2 (by simpa using h)
    omega
theorem xU2 {n : Nat} : bin .shr (.int .u64 (n : Nat)) (.int .u64 8) = some (.int .u64 ((n / 256 : Nat) : Int)) := by
  show (if (8 : Int) < 0 then none else some (PV.int .u64 ((n : Int).fdiv (2 ^ (Int.toNat 8))))) = _
  rw [if_neg (by decide), Int.fdiv_eq_ediv_of_nonneg _ (by decide)]
  rfl
theorem xTJ {n : Nat} (hn : n < 65536) : VC Tryz.prog 206 [.int .u64 n] [] (.int .i64 (Sort.bitsLen n)) [] := by
  refine vcs vf206 ?_
  by_cases h : n < 256
  · obtain ⟨c, hc, hcl⟩ := xPV h
    have hc' : tab8[(n : Int).toNat]? = some c := hc
    have hcu : IntKind.u8.wrap (n : Int) = n := by unfold IntKind.wrap; simp [IntKind.bits, IntKind.signed]; omega
    have hci : IntKind.i64.wrap (c.toNat : Int) = c.toNat := xB0 (by omega) (by have := c.toNat_lt; omega)
    have hcb : c.toNat < 256 := c.toNat_lt
    repeat first|refine sgo ?_|refine sop ?_
    refine cndf (xAB ?_) rfl (decide_eq_false (by omega))
    repeat first|refine sgo ?_|refine sop ?_
    refine cndf (xAB ?_) rfl (decide_eq_false (by omega))
    repeat first|refine sgo ?_|refine sop ?_
    refine cndf (xAB ?_) rfl (decide_eq_false (by omega))
    repeat first|refine sgo ?_|refine xBN ?_|refine sop ?_
    refine xAC ⟨.inr rfl, oI ?_⟩
    rw [hcl]; omega
  · obtain ⟨c, hc, hcl⟩ := xPV (n := n / 256) (by omega)
    have hc' : tab8[((n / 256 : Nat) : Int).toNat]? = some c := hc
    have hcu : IntKind.u8.wrap ((n / 256 : Nat) : Int) = ((n / 256 : Nat) : Int) := by unfold IntKind.wrap; simp [IntKind.bits, IntKind.signed]; omega
    have hci : IntKind.i64.wrap (c.toNat : Int) = c.toNat := xB0 (by omega) (by have := c.toNat_lt; omega)
    have hcb : c.toNat < 256 := c.toNat_lt
    have hb := xPA (n := n) (by omega)
    repeat first|refine sgo ?_|refine sop ?_
    refine cndf (xAB ?_) rfl (decide_eq_false (by omega))
    repeat first|refine sgo ?_|refine sop ?_
    refine cndf (xAB ?_) rfl (decide_eq_false (by omega))
    repeat first|refine sgo ?_|refine sop ?_
    refine cndt ?_ rfl (decide_eq_true (by omega))
    repeat first|refine sgo ?_|refine xBE xU2 ?_|refine xBN ?_|refine sop ?_
    refine xAC ⟨.inr rfl, oI ?_⟩
    rw [hcl, hb]; omega
theorem xUD {n : Nat} (hn : n < 65536) : VC Tryz.prog 174 [.int .u64 n] [] (.int .i64 (Sort.bitsLen n)) [] := by
  refine vcs vf174 ?_
  repeat first|refine sgo ?_|refine sop ?_
  refine cndf (xAB ?_) rfl rfl
  repeat first|refine sgo ?_|refine cv0 (xTJ hn) ?_|refine sop ?_
  exact xAC ⟨.inr rfl, oI rfl⟩
theorem xU3 {k : Nat} (hk : k ≤ 16) : bin .shl (.int .u64 1) (.int .i64 k) = some (.int .u64 ((1 <<< k : Nat) : Int)) := by
  show (if (k : Int) < 0 then none else some (PV.int .u64 (IntKind.u64.wrap (1 * 2 ^ (min (Int.toNat k) 64))))) = _
  rw [if_neg (by omega)]
  have h1 : min (Int.toNat k) 64 = k := by omega
  have h2 : 2 ^ k ≤ 2 ^ 16 := Nat.pow_le_pow_right (by decide) hk
  rw [h1, Nat.one_shiftLeft]
  have h3 : (1 : Int) * 2 ^ k = ((2 ^ k : Nat) : Int) := by simp
  rw [h3]
  have : IntKind.u64.wrap ((2 ^ k : Nat) : Int) = ((2 ^ k : Nat) : Int) := by
    unfold IntKind.wrap
    have h4 : 2 ^ k < 2 ^ 64 := by omega
    generalize 2 ^ k = x at h4
    simp [IntKind.bits, IntKind.signed]
    omega
  rw [this]
theorem xVa {n : Nat} (hn : n < 65536) : VC Tryz.prog 216 [.int .i64 n] [] (.int .u64 ((1 <<< Sort.bitsLen n : Nat) : Int)) [] := by
  refine vcs vf216 ?_
  have hcu : IntKind.u64.wrap (n : Int) = n := by unfold IntKind.wrap; simp [IntKind.bits, IntKind.signed]; omega
  have hs := xU3 (xRu hn)
  repeat first|refine sgo ?_|refine xBN ?_|refine cv0 (xUD hn) ?_|refine xBE hs ?_|refine sop ?_
  exact xAC ⟨.inr rfl, oI rfl⟩
theorem xQY (r : UInt64) : BitVec.ofInt 64 (r.toNat : Int) = r.toBitVec := by
  apply BitVec.eq_of_toNat_eq
  rw [BitVec.toNat_ofInt]
  have := r.toNat_lt
  have h : (r.toNat : Int) % ((2 ^ 64 : Nat) : Int) = (r.toNat : Int) := Int.emod_eq_of_lt (by omega) (by omega)
  rw [h]; rfl
theorem xHk {n : Nat} (h : n < 18446744073709551616) : IntKind.u64.wrap (n : Int) = n := by
  unfold IntKind.wrap; simp [IntKind.bits, IntKind.signed]; omega
theorem xMH (r s : UInt64) : bin .xor (.int .u64 r.toNat) (.int .u64 s.toNat) = some (.int .u64 (r ^^^ s).toNat) := by
  show some (PV.int .u64 (IntKind.u64.wrap (BitVec.ofInt 64 r.toNat ^^^ BitVec.ofInt 64 s.toNat).toNat)) = _
  rw [xQY, xQY, xHk (BitVec.isLt _)]
  rfl
theorem xPu (r : UInt64) (k : UInt64) (hk : k.toNat < 64) : bin .shl (.int .u64 r.toNat) (.int .u64 k.toNat) = some (.int .u64 (r <<< k).toNat) := by
  show (if ((k.toNat : Nat) : Int) < 0 then none else some (PV.int .u64 (IntKind.u64.wrap ((r.toNat : Int) * 2 ^ (min (Int.toNat k.toNat) 64))))) = _
  rw [if_neg (by omega)]
  have h1 : min (Int.toNat k.toNat) 64 = k.toNat := by omega
  have h2 : (r.toNat : Int) * 2 ^ k.toNat = ((r.toNat * 2 ^ k.toNat : Nat) : Int) := by simp
  rw [h1, h2]
  have h3 : IntKind.u64.wrap ((r.toNat * 2 ^ k.toNat : Nat) : Int) = ((r <<< k).toNat : Int) := by
    rw [UInt64.toNat_shiftLeft, Nat.mod_eq_of_lt hk, Nat.shiftLeft_eq]
    unfold IntKind.wrap; simp [IntKind.bits, IntKind.signed]
  rw [h3]
theorem xU1 (r : UInt64) (k : UInt64) (hk : k.toNat < 64) : bin .shr (.int .u64 r.toNat) (.int .u64 k.toNat) = some (.int .u64 (r >>> k).toNat) := by
  show (if ((k.toNat : Nat) : Int) < 0 then none else some (PV.int .u64 ((r.toNat : Int).fdiv (2 ^ (min (Int.toNat k.toNat) 64))))) = _
  rw [if_neg (by omega)]
  have h1 : min (Int.toNat k.toNat) 64 = k.toNat := by omega
  rw [h1]
  have h3 : (r.toNat : Int).fdiv (2 ^ k.toNat) = ((r >>> k).toNat : Int) := by
    rw [UInt64.toNat_shiftRight, Nat.mod_eq_of_lt hk, Nat.shiftRight_eq_div_pow, Int.fdiv_eq_ediv_of_nonneg _ (Int.pow_nonneg (by decide))]
    simp
  rw [h3]
theorem xVc (r : UInt64) : VC Tryz.prog 217 [.ptr ⟨0, 0⟩ 1 0 0] [⟨true, false, 1, [[.int .u64 r.toNat]]⟩] (.int .u64 (Sort.xorNext r).toNat) [⟨true, false, 1, [[.int .u64 (Sort.xorNext r).toNat]]⟩] := by
  refine vcs vf217 ?_
  have a1 := xPu r 13 (by decide)
  have a2 := xMH r (r <<< 13)
  have a3 := xU1 (r ^^^ (r <<< 13)) 7 (by decide)
  have a4 := xMH (r ^^^ (r <<< 13)) ((r ^^^ (r <<< 13)) >>> 7)
  have a5 := xPu ((r ^^^ (r <<< 13)) ^^^ ((r ^^^ (r <<< 13)) >>> 7)) 17 (by decide)
  have a6 := xMH ((r ^^^ (r <<< 13)) ^^^ ((r ^^^ (r <<< 13)) >>> 7)) (((r ^^^ (r <<< 13)) ^^^ ((r ^^^ (r <<< 13)) >>> 7)) <<< 17)
  repeat first|refine sgo ?_|refine xBE a1 ?_|refine xBE a2 ?_|refine xBE a3 ?_|refine xBE a4 ?_|refine xBE a5 ?_|refine xBE a6 ?_|refine sop ?_
  exact xAC ⟨.inr rfl, oX1 rfl⟩
end Go.Proofs
