/- Sa -/
import Derived.Test.YtlpjfoijjlmgeaaDoorProg
import Derived.Test.YtlpjfoijjlmgeaaDoorVD
import Derived.Test.YtlpjfoijjlmgeaaDoorPu
open Go.V Go.Pu
set_option linter.unusedVariables false
set_option linter.unusedSimpArgs false
set_option maxRecDepth 20000
namespace Go.Proofs
def vc117 := vcm Tryd.prog 117
theorem vf117 : VF Tryd.prog 117 = some (20, vc117, [.tmp 4]) := by kernel_rfl
def vc21 := vcm Tryd.prog 21
theorem vf21 : VF Tryd.prog 21 = some (20, vc21, [.tmp 4]) := by kernel_rfl
def vc38 := vcm Tryd.prog 38
theorem vf38 : VF Tryd.prog 38 = some (13, vc38, [.tmp 2]) := by kernel_rfl
def vc64 := vcm Tryd.prog 64
theorem vf64 : VF Tryd.prog 64 = some (13, vc64, [.tmp 2]) := by kernel_rfl
def vc35 := vcm Tryd.prog 35
theorem vf35 : VF Tryd.prog 35 = some (7, vc35, [.cell true 2 2]) := by kernel_rfl
def vc48 := vcm Tryd.prog 48
theorem vf48 : VF Tryd.prog 48 = some (7, vc48, [.cell true 2 2]) := by kernel_rfl
def vc77 := vcm Tryd.prog 77
theorem vf77 : VF Tryd.prog 77 = some (2, vc77, [.cell true 2 0]) := by kernel_rfl
def vc58 := vcm Tryd.prog 58
theorem vf58 : VF Tryd.prog 58 = some (18, vc58, [.tmp 4]) := by kernel_rfl
def vc74 := vcm Tryd.prog 74
theorem vf74 : VF Tryd.prog 74 = some (20, vc74, [.tmp 4]) := by kernel_rfl
def vc88 := vcm Tryd.prog 88
theorem vf88 : VF Tryd.prog 88 = some (6, vc88, [.tmp 2]) := by kernel_rfl
def vc57 := vcm Tryd.prog 57
theorem vf57 : VF Tryd.prog 57 = some (20, vc57, [.tmp 4]) := by kernel_rfl
def vc73 := vcm Tryd.prog 73
theorem vf73 : VF Tryd.prog 73 = some (6, vc73, [.tmp 2]) := by kernel_rfl
def vc75 := vcm Tryd.prog 75
theorem vf75 : VF Tryd.prog 75 = some (33, vc75, [.tmp 4]) := by kernel_rfl
def vc60 := vcm Tryd.prog 60
theorem vf60 : VF Tryd.prog 60 = some (5, vc60, [.tmp 2]) := by kernel_rfl
def vc37 := vcm Tryd.prog 37
theorem vf37 : VF Tryd.prog 37 = some (22, vc37, [.cell true 2 4]) := by kernel_rfl
def vc42 := vcm Tryd.prog 42
theorem vf42 : VF Tryd.prog 42 = some (16, vc42, [.tmp 4]) := by kernel_rfl
def vc63 := vcm Tryd.prog 63
theorem vf63 : VF Tryd.prog 63 = some (26, vc63, [.cell true 2 4]) := by kernel_rfl
def vc95 := vcm Tryd.prog 95
theorem vf95 : VF Tryd.prog 95 = some (18, vc95, [.tmp 4]) := by kernel_rfl
def vc89 := vcm Tryd.prog 89
theorem vf89 : VF Tryd.prog 89 = some (15, vc89, [.tmp 4, .tmp 5]) := by kernel_rfl
def vc76 := vcm Tryd.prog 76
theorem vf76 : VF Tryd.prog 76 = some (11, vc76, [.tmp 4, .tmp 5]) := by kernel_rfl
def vc61 := vcm Tryd.prog 61
theorem vf61 : VF Tryd.prog 61 = some (21, vc61, [.tmp 6, .tmp 7]) := by kernel_rfl
def vc49 := vcm Tryd.prog 49
theorem vf49 : VF Tryd.prog 49 = some (18, vc49, [.tmp 4]) := by kernel_rfl
abbrev encS (s : SpanL) : List PV := [.str s.lo, .str s.hi]
theorem xRO (s : SpanL) (k : Str) : VC Tryd.prog 117 [.agg (encS s), .str k] [] (.bool (hasL s k)) [] := by
  refine vcs vf117 ?_
  repeat' first|refine sgo ?_|refine scn ?_|refine sop ?_|refine xAC ⟨.inr rfl, ?_⟩|refine cnd (fun _ => ?_) (fun _ => ?_)|(refine xB1 (fun _ => ?_) (fun _ => ?_) <;> first|refine xAX ?_|refine sop ?_)
  all_goals refine oB ?_
  all_goals simp_all [hasL]
theorem xI9 (s : SpanL) (k : Str) : VC Tryd.prog 21 [.agg (encS s), .str k] [] (.bool (hasL s k)) [] := by
  refine vcs vf21 ?_
  repeat' first|refine sgo ?_|refine scn ?_|refine sop ?_|refine xAC ⟨.inr rfl, ?_⟩|refine cnd (fun _ => ?_) (fun _ => ?_)|(refine xB1 (fun _ => ?_) (fun _ => ?_) <;> first|refine xAX ?_|refine sop ?_)
  all_goals refine oB ?_
  all_goals simp_all [hasL]
theorem xEY (s : SpanL) : VC Tryd.prog 38 [.agg (encS s)] [] (.bool (xAJ s)) [] := by
  refine vcs vf38 ?_
  repeat' first|refine sgo ?_|refine scn ?_|refine sop ?_|refine xAC ⟨.inr rfl, ?_⟩|refine cnd (fun _ => ?_) (fun _ => ?_)|(refine xB1 (fun _ => ?_) (fun _ => ?_) <;> first|refine xAX ?_|refine sop ?_)
  all_goals refine oB ?_
  all_goals simp_all [xAJ]
theorem xCP (s : SpanL) : VC Tryd.prog 64 [.agg (encS s)] [] (.bool (xAJ s)) [] := by
  refine vcs vf64 ?_
  repeat' first|refine sgo ?_|refine scn ?_|refine sop ?_|refine xAC ⟨.inr rfl, ?_⟩|refine cnd (fun _ => ?_) (fun _ => ?_)|(refine xB1 (fun _ => ?_) (fun _ => ?_) <;> first|refine xAX ?_|refine sop ?_)
  all_goals refine oB ?_
  all_goals simp_all [xAJ]
theorem one_vc (k : Str) (hk : k.length ≤ 1000000000) : VC Tryd.prog 35 [.str k] [] (.agg (encS (oneL k))) [] := by
  refine vcs vf35 ?_
  repeat' first|refine sgo ?_|refine scn ?_|refine sop ?_|refine xAC ⟨.inr rfl, ?_⟩|refine cnd (fun _ => ?_) (fun _ => ?_)|(refine xB1 (fun _ => ?_) (fun _ => ?_) <;> first|refine xAX ?_|refine sop ?_)
  all_goals exact oAny rfl
theorem xLE (k : Str) (hk : k.length ≤ 1000000000) : VC Tryd.prog 48 [.str k] [] (.agg (encS (oneL k))) [] := by
  refine vcs vf48 ?_
  repeat' first|refine sgo ?_|refine scn ?_|refine sop ?_|refine xAC ⟨.inr rfl, ?_⟩|refine cnd (fun _ => ?_) (fun _ => ?_)|(refine xB1 (fun _ => ?_) (fun _ => ?_) <;> first|refine xAX ?_|refine sop ?_)
  all_goals exact oAny rfl
theorem xOQ : VC Tryd.prog 77 [] [] (.agg (encS xIH)) [] := by
  refine vcs vf77 ?_
  repeat' first|refine sgo ?_|refine scn ?_|refine sop ?_|refine xAC ⟨.inr rfl, ?_⟩|refine cnd (fun _ => ?_) (fun _ => ?_)|(refine xB1 (fun _ => ?_) (fun _ => ?_) <;> first|refine xAX ?_|refine sop ?_)
  all_goals exact oAny rfl
theorem xRH (a : Str) : VC Tryd.prog 73 [.str a] [] (.bool false) [] := by
  refine vcs vf73 ?_
  repeat' first|refine sgo ?_|refine scn ?_|refine sop ?_|refine xAC ⟨.inr rfl, ?_⟩|refine cnd (fun _ => ?_) (fun _ => ?_)|(refine xB1 (fun _ => ?_) (fun _ => ?_) <;> first|refine xAX ?_|refine sop ?_)
  all_goals refine oB ?_
  all_goals simp
theorem xOT (a : Str) : VC Tryd.prog 88 [.str a] [] (.bool false) [] := by
  refine vcs vf88 ?_
  repeat' first|refine sgo ?_|refine scn ?_|refine sop ?_|refine xAC ⟨.inr rfl, ?_⟩|refine cnd (fun _ => ?_) (fun _ => ?_)|(refine xB1 (fun _ => ?_) (fun _ => ?_) <;> first|refine xAX ?_|refine sop ?_)
  all_goals refine oB ?_
  all_goals simp
theorem xRV (a b : Str) : VC Tryd.prog 57 [.str a, .str b] [] (.int .i64 (xEJ a b)) [] := by
  refine vcs vf57 ?_
  repeat' first|refine sgo ?_|refine scn ?_|refine cv0 (xRH _) ?_|refine sop ?_|refine xAC ⟨.inr rfl, ?_⟩|refine cnd (fun _ => ?_) (fun _ => ?_)|(refine xB1 (fun _ => ?_) (fun _ => ?_) <;> first|refine cv0 (xRH _) ?_|refine xAX ?_|refine sop ?_)
  all_goals refine oI ?_
  all_goals simp_all [xEJ]
theorem xPF (a b : Str) : VC Tryd.prog 74 [.str a, .str b] [] (.int .i64 (xEJ a b)) [] := by
  refine vcs vf74 ?_
  repeat' first|refine sgo ?_|refine scn ?_|refine cv0 (xOT _) ?_|refine sop ?_|refine xAC ⟨.inr rfl, ?_⟩|refine cnd (fun _ => ?_) (fun _ => ?_)|(refine xB1 (fun _ => ?_) (fun _ => ?_) <;> first|refine cv0 (xOT _) ?_|refine xAX ?_|refine sop ?_)
  all_goals refine oI ?_
  all_goals simp_all [xEJ]
theorem xEa (a b : Str) : VC Tryd.prog 58 [.str a, .str b] [] (.int .i64 (xEl a b)) [] := by
  refine vcs vf58 ?_
  repeat' first|refine sgo ?_|refine scn ?_|refine cv0 (xPF _ _) ?_|refine sop ?_|refine xAC ⟨.inr rfl, ?_⟩|refine cnd (fun _ => ?_) (fun _ => ?_)|(refine xB1 (fun _ => ?_) (fun _ => ?_) <;> first|refine cv0 (xPF _ _) ?_|refine xAX ?_|refine sop ?_)
  all_goals refine oI ?_
  all_goals simp_all [xEl]
end Go.Proofs
open Go.V Go.Pu
set_option linter.unusedVariables false
set_option linter.unusedSimpArgs false
set_option maxRecDepth 20000
namespace Go.Proofs
theorem xIa (a b : Str) : VC Tryd.prog 75 [.sh false [[.str a], [.str b]], .fn 58 []] [] (.str (xB8 a b)) [] := by
  refine vcs vf75 ?_
  repeat' first|refine sgo ?_|refine scn ?_|refine cv0 (xEa _ _) ?_|refine xO9 3 ?_|refine sop ?_|refine xAC ⟨.inr rfl, ?_⟩|refine cnd (fun _ => ?_) (fun _ => ?_)|(refine xB1 (fun _ => ?_) (fun _ => ?_) <;> first|refine cv0 (xEa _ _) ?_|refine xO9 3 ?_|refine xAX ?_|refine sop ?_)
  all_goals refine oS ?_
  all_goals simp_all [xB8]
  all_goals omega
theorem xMT (a b : Str) : VC Tryd.prog 60 [.sh false [[.str a], [.str b]]] [] (.str (xB8 a b)) [] := by
  refine vcs vf60 ?_
  repeat' first|refine sgo ?_|refine scn ?_|refine cv0 (xIa _ _) ?_|refine sop ?_|refine xAC ⟨.inr rfl, ?_⟩|refine cnd (fun _ => ?_) (fun _ => ?_)|(refine xB1 (fun _ => ?_) (fun _ => ?_) <;> first|refine cv0 (xIa _ _) ?_|refine xAX ?_|refine sop ?_)
  all_goals exact oS rfl
theorem xLR (a b : SpanL) : VC Tryd.prog 37 [.agg (encS a), .agg (encS b)] [] (.agg (encS (xAg a b))) [] := by
  refine vcs vf37 ?_
  repeat' first|refine sgo ?_|refine scn ?_|refine cv0 (xMT a.hi b.hi) ?_|refine cv0 (xEY ⟨maxL a.lo b.lo, xB8 a.hi b.hi⟩) ?_|refine sop ?_|refine xAC ⟨.inr rfl, ?_⟩|refine cnd (fun _ => ?_) (fun _ => ?_)|(refine xB1 (fun _ => ?_) (fun _ => ?_) <;> first|refine cv0 (xMT a.hi b.hi) ?_|refine cv0 (xEY ⟨maxL a.lo b.lo, xB8 a.hi b.hi⟩) ?_|refine xAX ?_|refine sop ?_)
  all_goals refine oC ?_
  all_goals simp_all [xAg, xIH]
  all_goals rfl
theorem xJU (a b : Str) : VC Tryd.prog 42 [.str a, .str b] [] (.bool (xDC a b)) [] := by
  refine vcs vf42 ?_
  repeat' first|refine sgo ?_|refine scn ?_|refine sop ?_|refine xAC ⟨.inr rfl, ?_⟩|refine cnd (fun _ => ?_) (fun _ => ?_)|(refine xB1 (fun _ => ?_) (fun _ => ?_) <;> first|refine xAX ?_|refine sop ?_)
  all_goals refine oB ?_
  all_goals simp_all [xDC]
  all_goals (cases a <;> cases b <;> simp_all)
theorem xI8 (a b : SpanL) : VC Tryd.prog 63 [.agg (encS a), .agg (encS b)] [] (.agg (encS (xL3 a b))) [] := by
  refine vcs vf63 ?_
  repeat' first|refine sgo ?_|refine scn ?_|refine cv0 (xJU b.hi a.hi) ?_|refine cv0 (xCP ⟨maxL a.lo b.lo, a.hi⟩) ?_|refine cv0 (xCP ⟨maxL a.lo b.lo, b.hi⟩) ?_|refine cv0 xOQ ?_|refine sop ?_|refine xAC ⟨.inr rfl, ?_⟩|refine cnd (fun _ => ?_) (fun _ => ?_)|(refine xB1 (fun _ => ?_) (fun _ => ?_) <;> first|refine cv0 (xJU b.hi a.hi) ?_|refine cv0 (xCP ⟨maxL a.lo b.lo, a.hi⟩) ?_|refine cv0 (xCP ⟨maxL a.lo b.lo, b.hi⟩) ?_|refine cv0 xOQ ?_|refine xAX ?_|refine sop ?_)
  all_goals refine oC ?_
  all_goals simp_all [xL3, xIH]
  all_goals rfl
theorem xEC (k p : Str) (hk : k.length ≤ 1000000000) (hp : p.length ≤ 1000000000) : VC Tryd.prog 95 [.str k, .str p] [] (.bool (xAD k p)) [] := by
  refine vcs vf95 ?_
  repeat' first|refine sgo ?_|refine scn ?_|refine xD5 ?_|refine sop ?_|refine xAC ⟨.inr rfl, ?_⟩|refine cnd (fun _ => ?_) (fun _ => ?_)|(refine xB1 (fun _ => ?_) (fun _ => ?_) <;> first|refine xD5 ?_|refine xAX ?_|refine sop ?_)
  all_goals refine oB ?_
  all_goals simp_all [xAD]
  all_goals omega
theorem xDU (k p : Str) (hk : k.length ≤ 1000000000) (hp : p.length ≤ 1000000000) : VC Tryd.prog 49 [.str k, .str p] [] (.bool (xAD k p)) [] := by
  refine vcs vf49 ?_
  repeat' first|refine sgo ?_|refine scn ?_|refine xD5 ?_|refine sop ?_|refine xAC ⟨.inr rfl, ?_⟩|refine cnd (fun _ => ?_) (fun _ => ?_)|(refine xB1 (fun _ => ?_) (fun _ => ?_) <;> first|refine xD5 ?_|refine xAX ?_|refine sop ?_)
  all_goals refine oB ?_
  all_goals simp_all [xAD]
  all_goals omega
theorem xO7 (k p : Str) (hk : k.length ≤ 1000000000) (hp : p.length ≤ 1000000000) : VC Tryd.prog 89 [.str k, .str p] [] (.tup [.str (if xAD k p = true then k.drop p.length else k), .bool (xAD k p)]) [] := by
  refine xCC vf89 ?_ (Nat.le_of_ble_eq_true rfl) (by intro vs h; cases h; intro p hp q; rcases List.mem_cons.1 hp with rfl | hp <;> simp_all)
  have hl : xAD k p = true → p.length ≤ k.length := fun h => by simp [xAD] at h; exact h.1
  repeat' first|refine sgo ?_|refine scn ?_|refine cv0 (xEC k p hk hp) ?_|refine xD5 ?_|refine sop ?_|refine xAC ⟨.inr rfl, ?_⟩|refine cnd (fun _ => ?_) (fun _ => ?_)|(refine xB1 (fun _ => ?_) (fun _ => ?_) <;> first|refine cv0 (xEC k p hk hp) ?_|refine xD5 ?_|refine xAX ?_|refine sop ?_)
  all_goals refine oSB ?_
  all_goals simp_all
  all_goals (rw [List.take_of_length_le (by simp)])
theorem xRT (k p : Str) (hk : k.length ≤ 1000000000) (hp : p.length ≤ 1000000000) : VC Tryd.prog 76 [.str k, .str p] [] (.tup [.str (if xAD k p = true then k.drop p.length else k), .bool (xAD k p)]) [] := by
  refine xCC vf76 ?_ (Nat.le_of_ble_eq_true rfl) (by intro vs h; cases h; intro p hp q; rcases List.mem_cons.1 hp with rfl | hp <;> simp_all)
  repeat' first|refine sgo ?_|refine scn ?_|refine cv0 (xO7 k p hk hp) ?_|refine sop ?_|refine xAC ⟨.inr rfl, ?_⟩|refine cnd (fun _ => ?_) (fun _ => ?_)|(refine xB1 (fun _ => ?_) (fun _ => ?_) <;> first|refine cv0 (xO7 k p hk hp) ?_|refine xAX ?_|refine sop ?_)
  all_goals exact oSB rfl
theorem xJO (k f t : Str) (hk : k.length ≤ 1000000000) (hf : f.length ≤ 1000000000) (ht : t.length ≤ 1000000000) : VC Tryd.prog 61 [.str k, .str f, .str t] [] (.tup [.str (xCu k f t).1, .bool (xCu k f t).2]) [] := by
  refine xCC vf61 ?_ (Nat.le_of_ble_eq_true rfl) (by intro vs h; cases h; intro p hp q; rcases List.mem_cons.1 hp with rfl | hp <;> simp_all)
  by_cases hb : xAD k f = true
  · have hc := xRT k f hk hf
    rw [if_pos hb] at hc
    have hl : (k.drop f.length).length ≤ 1000000000 := by simp; omega
    repeat' first|refine sgo ?_|refine scn ?_|refine cv0 hc ?_|refine sop ?_|refine xAC ⟨.inr rfl, ?_⟩|refine cnd (fun _ => ?_) (fun _ => ?_)|(refine xB1 (fun _ => ?_) (fun _ => ?_) <;> first|refine cv0 hc ?_|refine xAX ?_|refine sop ?_)
    all_goals refine oSB ?_
    all_goals simp_all [xCu]
  · have hc := xRT k f hk hf
    rw [if_neg hb] at hc
    repeat' first|refine sgo ?_|refine scn ?_|refine cv0 hc ?_|refine sop ?_|refine xAC ⟨.inr rfl, ?_⟩|refine cnd (fun _ => ?_) (fun _ => ?_)|(refine xB1 (fun _ => ?_) (fun _ => ?_) <;> first|refine cv0 hc ?_|refine xAX ?_|refine sop ?_)
    all_goals refine oSB ?_
    all_goals simp_all [xCu]
end Go.Proofs
open Go.V Go.Pu
set_option linter.unusedVariables false
set_option linter.unusedSimpArgs false
set_option maxRecDepth 20000
namespace Go.Proofs
def vc36 := vcm Tryd.prog 36
theorem vf36 : VF Tryd.prog 36 = some (38, vc36, [.cell true 2 2]) := by kernel_rfl
def vc46 := vcm Tryd.prog 46
theorem vf46 : VF Tryd.prog 46 = some (35, vc46, [.cell true 2 2]) := by kernel_rfl
theorem xPs {p : Str} {n : Nat} {c : UInt8} (h : n < p.length) : (p.set n c).take (n + 1) = p.take n ++ [c] := by
  rw [List.take_add_one, List.take_set, List.set_eq_of_length_le (by simp; omega)]
  simp [h]
set_option maxHeartbeats 1000000 in
theorem xG5 (p : Str) (hp : p.length ≤ 1000000000) : VC Tryd.prog 36 [.str p] [] (.agg (encS (xAE p))) [] := by
  refine vcs vf36 ?_
  repeat first|refine sgo ?_|refine sop ?_
  refine xAH (fun (g : Nat) => [(0, .str p), (2, .ptr ⟨1, 0⟩ 1 0 0), (3, .own ⟨1, 8200⟩ (p.map encB).length 0 g)])
    (fun g => [(⟨1, 0⟩, ⟨true, false, 2, [[.str [], .str []]]⟩), (⟨1, 8200⟩, blkV 1 (p.map encB))]) (fun g => g)
    (fun g => g ≤ p.length ∧ xBd p g = xBd p p.length) p.length (goes (h1 := by refine ⟨rfl, rfl, ?_, trivial⟩; simp; rfl)) ⟨Nat.le_refl _, rfl⟩ ?_
  rintro n ⟨hn, hs⟩
  (try dsimp only)
  have hel : (p.map encB).length = p.length := List.length_map ..
  repeat first|refine sgo ?_|refine sop ?_
  refine xB1 (fun hg => ?_) (fun hg => ?_)
  · have hpos : 0 < n := by have := of_decide_eq_true hg; omega
    obtain ⟨m, rfl⟩ : ∃ m, n = m + 1 := ⟨n - 1, by omega⟩
    obtain ⟨c, hc⟩ : ∃ c, p[m]? = some c := ⟨_, List.getElem?_eq_getElem (by omega)⟩
    have hce : (blkV 1 (p.map encB)).els[0 + (((m + 1 : Nat) : Int) - 1).toNat]? = some (encB c) := by
      rw [show 0 + (((m + 1 : Nat) : Int) - 1).toNat = m by omega]
      show (p.map encB)[m]? = _
      rw [List.getElem?_map, hc]; rfl
    repeat first|refine sgo ?_|refine xAG ?_|refine sop ?_
    refine cnd (fun h => xAA ?_) (fun h => xAF ?_)
    · have hc255 : p[m]? = some 255 := by
        rw [hc]; congr 1
        have : (c.toNat : Int) = 255 := by simpa using h
        exact UInt8.toNat_inj.1 (by show c.toNat = 255; omega)
      repeat first|refine sgo ?_|refine xLL ?_|refine sop ?_
      refine agn m ⟨by omega, ?_⟩ (goes (h1 := by refine ⟨rfl, rfl, congrArg (fun x => some (PV.own ⟨1, 8200⟩ (p.map encB).length 0 x)) (?_ : (((m + 1 : Nat) : Int) - 1).toNat - Int.toNat 0 = m), trivial⟩; omega))
      rw [← hs, xBd, if_pos hc255]
    · have hne : ¬ p[m]? = some 255 := by
        rw [hc]
        intro e
        cases e
        exact absurd h (by decide)
      have hst : xBd p (m + 1) = m + 1 := by rw [xBd, if_neg hne]
      repeat first|refine sgo ?_|refine sop ?_
      refine cndt ?_ rfl (decide_eq_true (by omega))
      have hw := xGh c
      have hset := xPs (p := p) (n := m) (c := c + 1) (by omega)
      have hmm : 0 + (((m + 1 : Nat) : Int) - 1).toNat = m := by omega
      have hb2 : (((p.set (0 + (((m + 1 : Nat) : Int) - 1).toNat) (c + 1)).map encB).drop 0).take (m + 1) = (p.take m ++ [c + 1]).map encB := by rw [hmm, List.drop_zero, ← List.map_take, hset]
      repeat first|refine sgo ?_|refine xAG ?_|refine xRE ?_|refine o_v (vst encB (c + 1)) ?_|refine xRD hb2 ?_|refine sop ?_
      refine xAC ⟨.inr rfl, oC ?_⟩
      have : upL p = p.take m ++ [c + 1] := by
        unfold upL
        rw [← hs, hst]
        simp [List.getD, hc]
      rw [show xAE p = ⟨p, upL p⟩ from rfl, this]
      rfl
  · have h0 : n = 0 := by have := of_decide_eq_false hg; omega
    subst h0
    repeat first|refine sgo ?_|refine sop ?_
    refine cndf (xAF ?_)
    repeat first|refine sgo ?_|refine sop ?_
    refine cndf (xAA ?_) rfl (by simp)
    have hb2 : (((p.map encB).drop 0).take 0) = ([] : Str).map encB := rfl
    repeat first|refine sgo ?_|refine xRD hb2 ?_|refine sop ?_
    refine xAC ⟨.inr rfl, oC ?_⟩
    have : upL p = [] := by
      unfold upL
      rw [← hs]
      rfl
    rw [show xAE p = ⟨p, upL p⟩ from rfl, this]
    rfl
theorem xCh (p : Str) (hp : p.length ≤ 1000000000) : VC Tryd.prog 46 [.str p] [] (.agg (encS (xAE p))) [] := by
  refine vcs vf46 ?_
  repeat first|refine sgo ?_|refine sop ?_
  refine xAH (fun (g : Nat) => [(0, .str p), (2, .ptr ⟨1, 0⟩ 1 0 0), (3, .int .i64 g)])
    (fun g => [(⟨1, 0⟩, ⟨true, false, 2, [[.str [], .str []]]⟩)]) (fun g => g)
    (fun g => g ≤ p.length ∧ xBd p g = xBd p p.length) p.length goes ⟨Nat.le_refl _, rfl⟩ ?_
  rintro n ⟨hn, hs⟩
  (try dsimp only)
  repeat first|refine sgo ?_|refine sop ?_
  refine xB1 (fun hg => ?_) (fun hg => ?_)
  · have hpos : 0 < n := by have := of_decide_eq_true hg; omega
    obtain ⟨m, rfl⟩ : ∃ m, n = m + 1 := ⟨n - 1, by omega⟩
    obtain ⟨c, hc⟩ : ∃ c, p[m]? = some c := ⟨_, List.getElem?_eq_getElem (by omega)⟩
    have hce : p[(((m + 1 : Nat) : Int) - 1).toNat]? = some c := by
      rw [show (((m + 1 : Nat) : Int) - 1).toNat = m by omega]; exact hc
    have hmm : ((m + 1 : Nat) : Int) - 1 = (m : Nat) := by omega
    repeat first|refine sgo ?_|refine sop ?_
    refine cnd (fun h => xAA ?_) (fun h => xAF ?_)
    · have hc255 : p[m]? = some 255 := by
        rw [hc]; congr 1
        have : (c.toNat : Int) = 255 := by simpa using h
        exact UInt8.toNat_inj.1 (by show c.toNat = 255; omega)
      repeat first|refine sgo ?_|refine sop ?_
      refine agn m ⟨by omega, ?_⟩ (goes (h1 := by refine ⟨rfl, rfl, congrArg (fun x => some (PV.int .i64 x)) hmm, trivial⟩))
      rw [← hs, xBd, if_pos hc255]
    · have hne : ¬ p[m]? = some 255 := by
        rw [hc]
        intro e
        cases e
        exact absurd h (by decide)
      have hst : xBd p (m + 1) = m + 1 := by rw [xBd, if_neg hne]
      repeat first|refine sgo ?_|refine sop ?_
      refine cndf (xAA ?_) rfl (by simp; omega)
      have hw := xGh c
      have hl1 : ((p.drop (Int.toNat 0)).take ((((m + 1 : Nat) : Int) - 1).toNat - Int.toNat 0)).length ≤ 1000000000 := by simp; omega
      repeat first|refine sgo ?_|refine xD5 ?_|refine xRE ?_|refine sop ?_
      refine xAC ⟨.inr rfl, oC ?_⟩
      have : upL p = p.take m ++ [c + 1] := by
        unfold upL
        rw [← hs, hst]
        simp [List.getD, hc]
      rw [show xAE p = ⟨p, upL p⟩ from rfl, this]
      show [PV.str p, PV.str (_ ++ [UInt8.ofNat (((c + 1).toNat : Int)).toNat])] = _
      rw [xP7, show (((m + 1 : Nat) : Int) - 1).toNat - Int.toNat 0 = m by omega]
      rfl
  · have h0 : n = 0 := by have := of_decide_eq_false hg; omega
    subst h0
    repeat first|refine sgo ?_|refine sop ?_
    refine cndf (xAF ?_)
    repeat first|refine sgo ?_|refine sop ?_
    refine cndt ?_ rfl rfl
    repeat first|refine sgo ?_|refine sop ?_
    refine xAC ⟨.inr rfl, oC ?_⟩
    have : upL p = [] := by
      unfold upL
      rw [← hs]
      rfl
    rw [show xAE p = ⟨p, upL p⟩ from rfl, this]
    rfl
end Go.Proofs
open Go.V Go.Pu
set_option linter.unusedVariables false
set_option linter.unusedSimpArgs false
set_option maxRecDepth 20000
namespace Go.Proofs
def shortL (l : List SpanL) (n : Int) : Bool := l.all (fun s => decide (s.lo.length ≤ 30) && decide (s.hi.length ≤ 30)) && decide ((l.length : Int) ≤ n)
theorem all_drop {α : Type} {f : α → Bool} {l : List α} {i : Nat} {x : α} (h : l[i]? = some x) : (l.drop i).all f = (f x && (l.drop (i + 1)).all f) := by
  rw [xA7 h, List.all_cons]
abbrev encT (s : Str) : List PV := [.str s]
def cutE (e : Str) : Str := (e.drop (Int.toNat 0)).take (((e.length : Int) - 1).toNat - Int.toNat 0)
def lowE (e : Str) : UInt8 := UInt8.ofNat (IntKind.u8.wrap (((e.getD (e.length - 1) 0).toNat : Int) - 1)).toNat
def xDf (e : Str) : List Str := if e.length = 0 then [e, e ++ [0], e ++ [255]] else [e, e ++ [0], e ++ [255]] ++ [cutE e, cutE e ++ [lowE e] ++ [255]]
def xLP (l : List SpanL) : List Str := l.foldl (fun o s => o ++ xDf s.lo ++ xDf s.hi) [[], [0], [97], [255]]
theorem xKM (e : Str) : (xDf e).length ≤ 5 := by unfold xDf; split <;> simp
theorem xQo (e : Str) : (cutE e).length ≤ e.length := by simp only [cutE, List.length_take, List.length_drop]; omega
theorem xKL {e k : Str} (h : k ∈ xDf e) : k.length ≤ e.length + 2 := by
  have := xQo e
  unfold xDf at h
  split at h
  · simp at h
    rcases h with rfl | rfl | rfl <;> simp
  · simp at h
    rcases h with rfl | rfl | rfl | rfl | rfl <;> simp <;> omega
theorem xOR {l : List SpanL} {n : Nat} (hl : ∀ s ∈ l, s.lo.length ≤ n ∧ s.hi.length ≤ n) {k : Str} (h : k ∈ xLP l) : k.length ≤ n + 2 := by
  have key : ∀ (l : List SpanL) (o : List Str), (∀ s ∈ l, s.lo.length ≤ n ∧ s.hi.length ≤ n) → (∀ k ∈ o, k.length ≤ n + 2) → ∀ k ∈ l.foldl (fun o s => o ++ xDf s.lo ++ xDf s.hi) o, k.length ≤ n + 2 := by
    intro l
    induction l with
    | nil => intro o _ ho; exact ho
    | cons s l ih =>
      intro o hs ho
      refine ih _ (fun t ht => hs t (by simp [ht])) (fun k hk => ?_)
      obtain ⟨h1, h2⟩ := hs s (by simp)
      simp only [List.mem_append] at hk
      rcases hk with (hk | hk) | hk
      · exact ho k hk
      · have := xKL hk; omega
      · have := xKL hk; omega
  exact key l _ hl (by intro k hk; simp at hk; rcases hk with rfl | rfl | rfl | rfl <;> simp) k h
theorem xOS (l : List SpanL) : (xLP l).length ≤ 4 + 10 * l.length := by
  have key : ∀ (l : List SpanL) (o : List Str), (l.foldl (fun o s => o ++ xDf s.lo ++ xDf s.hi) o).length ≤ o.length + 10 * l.length := by
    intro l
    induction l with
    | nil => intro o; simp
    | cons s l ih =>
      intro o
      refine Nat.le_trans (ih _) ?_
      have h1 := xKM s.lo
      have h2 := xKM s.hi
      simp only [List.length_append, List.length_cons]
      omega
  exact key l _
end Go.Proofs
open Go.V Go.Pu
set_option linter.unusedVariables false
set_option linter.unusedSimpArgs false
set_option maxRecDepth 20000
namespace Go.Proofs
theorem xQ1 {α : Type} {f : α → Bool} {l : List α} {i : Nat} {x : α} (h : l[i]? = some x) : (l.drop i).any f = (f x || (l.drop (i + 1)).any f) := by
  rw [xA7 h, List.any_cons]
theorem xSq {α : Type} {l m : List α} {i : Nat} {x y : α} (h : l[i]? = some x) (h2 : m[i]? = some y) (hn : x ≠ y) : l ≠ m := by
  intro e; subst e; rw [h] at h2; cases h2; exact hn rfl
end Go.Proofs
open Go.V Go.Pu
set_option linter.unusedVariables false
set_option linter.unusedSimpArgs false
set_option maxRecDepth 20000
namespace Go.Proofs
def vc41 := vcm Tryd.prog 41
theorem vf41 : VF Tryd.prog 41 = some (47, vc41, [.tmp 4]) := by kernel_rfl
def vc20 := vcm Tryd.prog 20
theorem vf20 : VF Tryd.prog 20 = some (82, vc20, [.tmp 2]) := by kernel_rfl
theorem xOn {q : PV} {l : List SpanL} (s : SpanL) (hq : Sl q (l.map encS)) (hl : l.length ≤ 1000000) : VC Tryd.prog 41 [q, .agg (encS s)] [] (ownV ⟨0, 0⟩ ((insS l s).map encS)) [blkV 2 ((insS l s).map encS)] := by
  refine vcs vf41 ?_
  have hlen := xJb l s
  repeat first|refine sgo ?_|refine cv0 (xCP s) ?_|refine sop ?_
  refine xAH (fun (g : Nat × List SpanL × Bool) => [(0, q), (3, .ptr ⟨1, 0⟩ 1 0 0), (5, ownV ⟨1, 8192⟩ (g.2.1.map encS)), (6, .bool g.2.2), (7, .int .i64 g.1)])
    (fun g => [(⟨1, 0⟩, ⟨true, false, 2, [encS s]⟩), (⟨1, 8192⟩, blkV 2 (g.2.1.map encS))]) (fun g => l.length - g.1)
    (fun g => g.1 ≤ l.length ∧ g.2.1.length ≤ 2 * g.1 ∧ insI s (l.drop g.1) g.2.1 g.2.2 = insI s l [] (xAJ s)) (0, [], xAJ s) goes ⟨Nat.zero_le _, Nat.le_refl _, rfl⟩ ?_
  rintro ⟨i, o, d⟩ ⟨hi, ho, hv⟩
  dsimp only at hi ho hv ⊢
  repeat first|refine sgo ?_|refine sop ?_
  refine cnd (fun h => xAA ?_) (fun h => xAF ?_)
  · have hlt : i < l.length := by have h' := of_decide_eq_true h; simp only [List.length_map] at h'; omega
    obtain ⟨y, hy⟩ : ∃ x, l[i]? = some x := ⟨_, List.getElem?_eq_getElem hlt⟩
    have hye := gm (enc := encS) (n := (i : Int)) hy (by omega)
    rw [xA7 hy, insI] at hv
    cases d with
    | true =>
      repeat first|refine sgo ?_|refine sop ?_
      refine cndf (xAA ?_)
      repeat first|refine sgo ?_|refine o_v (vap encS y) ?_|refine sop ?_
      refine agn (i + 1, o ++ [y], true) ⟨by simp only; omega, by simp only [List.length_append, List.length_cons, List.length_nil]; omega, ?_⟩ goes
      rw [if_neg (by simp)] at hv
      exact hv
    | false =>
      repeat first|refine sgo ?_|refine sop ?_
      refine cnd (fun h3 => ?_) (fun h3 => xAA ?_)
      · repeat first|refine sgo ?_|refine o_v (vap encS s) ?_|refine o_v (vap encS y) ?_|refine sop ?_
        refine agn (i + 1, o ++ [s] ++ [y], true) ⟨by simp only; omega, by simp only [List.length_append, List.length_cons, List.length_nil]; omega, ?_⟩ goes
        rw [if_pos ⟨rfl, h3⟩] at hv
        exact hv
      · repeat first|refine sgo ?_|refine o_v (vap encS y) ?_|refine sop ?_
        refine agn (i + 1, o ++ [y], false) ⟨by simp only; omega, by simp only [List.length_append, List.length_cons, List.length_nil]; omega, ?_⟩ goes
        rw [if_neg (by simp [h3])] at hv
        exact hv
  · have hge : i = l.length := by have h' := of_decide_eq_false h; simp only [List.length_map] at h'; omega
    subst hge
    rw [List.drop_length, insI] at hv
    repeat first|refine sgo ?_|refine sop ?_
    refine cnd (fun h3 => ?_) (fun h3 => xAA ?_)
    · have hd : d = false := by simpa using h3
      subst hd
      have hstep : insS l s = o ++ [s] := by unfold insS; rw [← hv]; rfl
      rw [hstep] at hlen ⊢
      repeat first|refine sgo ?_|refine o_v (vap encS s) ?_|refine sop ?_
      exact xAC ⟨.inr rfl, oOwn rfl⟩
    · have hd : d = true := by simpa using h3
      subst hd
      have hstep : insS l s = o := by unfold insS; rw [← hv]; rfl
      rw [hstep] at hlen ⊢
      repeat first|refine sgo ?_|refine sop ?_
      exact xAC ⟨.inr rfl, oOwn rfl⟩
set_option maxHeartbeats 1000000 in
theorem xEP {q : PV} {l : List SpanL} (hq : Sl q (l.map encS)) (hl : l.length ≤ 100000) : VC Tryd.prog 20 [q] [] (ownV ⟨0, 0⟩ ((xAO l).map encS)) [blkV 2 ((xAO l).map encS)] := by
  refine vcs vf20 ?_
  repeat first|refine sgo ?_|refine sop ?_
  refine xAH (fun (g : Nat × List SpanL) => [(0, q), (3, ownV ⟨1, 8192⟩ (g.2.map encS)), (4, .own ⟨1, 8200⟩ 0 0 0), (5, .int .i64 g.1)])
    (fun g => [(⟨1, 8192⟩, blkV 2 (g.2.map encS)), (⟨1, 8200⟩, blkV 2 [])]) (fun g => l.length - g.1)
    (fun g => g.1 ≤ l.length ∧ g.2.length ≤ g.1 ∧ (l.drop g.1).foldl insS g.2 = xI5 l) (0, []) goes ⟨Nat.zero_le _, Nat.le_refl _, rfl⟩ ?_
  rintro ⟨i, o⟩ ⟨hi, ho, hv⟩
  dsimp only at hi ho hv ⊢
  repeat first|refine sgo ?_|refine sop ?_
  refine cnd (fun h => xAA ?_) (fun h => xAF ?_)
  · have hlt : i < l.length := by have h' := of_decide_eq_true h; simp only [List.length_map] at h'; omega
    obtain ⟨y, hy⟩ : ∃ x, l[i]? = some x := ⟨_, List.getElem?_eq_getElem hlt⟩
    have hye := gm (enc := encS) (n := (i : Int)) hy (by omega)
    rw [xA7 hy, List.foldl_cons] at hv
    have hlen := xJb o y
    repeat first|refine sgo ?_|refine cv (xOn y (q := .sh false (o.map encS)) (l := o) Sl.sh (by omega)) ?_|refine sop ?_
    exact agn (i + 1, insS o y) ⟨by simp only; omega, by simp only; omega, hv⟩ (goesR ⟨1, 41000⟩ ⟨1, 8192⟩)
  · have hge : i = l.length := by have h' := of_decide_eq_false h; simp only [List.length_map] at h'; omega
    subst hge
    rw [List.drop_length, List.foldl_nil] at hv
    subst hv
    have hsl := ho
    generalize hsr : xI5 l = sl at hsl
    have hrn : xAO l = sl.foldl xCD [] := by unfold xAO xLO; rw [hsr]
    rw [hrn]
    repeat first|refine sgo ?_|refine sop ?_
    refine xAH (fun (g : Nat × List SpanL) => [(3, ownV ⟨1, 8192⟩ (sl.map encS)), (4, ownV ⟨1, 8200⟩ (g.2.map encS)), (6, .int .i64 g.1)])
      (fun g => [(⟨1, 8192⟩, blkV 2 (sl.map encS)), (⟨1, 8200⟩, blkV 2 (g.2.map encS))]) (fun g => sl.length - g.1)
      (fun g => g.1 ≤ sl.length ∧ g.2.length ≤ g.1 ∧ (sl.drop g.1).foldl xCD g.2 = sl.foldl xCD []) (0, []) goes ⟨Nat.zero_le _, Nat.le_refl _, rfl⟩ ?_
    rintro ⟨k, o⟩ ⟨hk, ho, hw⟩
    dsimp only at hk ho hw ⊢
    repeat first|refine sgo ?_|refine sop ?_
    refine cnd (fun h => xAA ?_) (fun h => xAF ?_)
    · have hlt : k < sl.length := by have h' := of_decide_eq_true h; simp only [List.length_map] at h'; omega
      obtain ⟨y, hy⟩ : ∃ x, sl[k]? = some x := ⟨_, List.getElem?_eq_getElem hlt⟩
      have hye := gm (enc := encS) (n := (k : Int)) hy (by omega)
      have hye2 : (blkV 2 (sl.map encS)).els[0 + (k : Int).toNat]? = some (encS y) := by rw [Nat.zero_add]; exact hye
      rw [xA7 hy, List.foldl_cons] at hw
      have hlen := xGu o y
      rcases Nat.eq_zero_or_pos o.length with h0 | hpos
      · have ho0 : o = [] := List.length_eq_zero_iff.1 h0
        subst ho0
        repeat first|refine sgo ?_|refine sop ?_
        refine cndt ?_
        repeat first|refine sgo ?_|refine xAG ?_|refine o_v (vap encS y) ?_|refine sop ?_
        exact agn (k + 1, [] ++ [y]) ⟨by simp only; omega, by simp, hw⟩ goes
      · obtain ⟨x, hx⟩ : ∃ x, o[o.length - 1]? = some x := ⟨_, List.getElem?_eq_getElem (by omega)⟩
        have hidx : 0 + (((o.map encS).length : Int) - 1).toNat = o.length - 1 := by simp only [List.length_map]; omega
        have hx' : o[0 + (((o.map encS).length : Int) - 1).toNat]? = some x := by rw [hidx]; exact hx
        have hxe : (blkV 2 (o.map encS)).els[0 + (((o.map encS).length : Int) - 1).toNat]? = some (encS x) := by
          show (o.map encS)[_]? = _
          rw [List.getElem?_map, hx']; rfl
        have hng : decide (((o.map encS).length : Int) - 1 < 0) = false := decide_eq_false (by simp only [List.length_map]; omega)
        have hst : xCD o y = if x.hi ≠ [] ∧ Op.bytesLess x.hi y.lo = true then o ++ [y] else if xDC x.hi y.hi = true then o.set (o.length - 1) ⟨x.lo, y.hi⟩ else o := by unfold xCD; rw [hx]
        have hmp : 0 < (o.map encS).length := by simp only [List.length_map]; omega
        have hml : (o.map encS).length = o.length := List.length_map ..
        repeat first|refine sgo ?_|refine xAG ?_|refine sop ?_
        refine xB1 (fun hg => ?_) (fun hg => ?_)
        · have hxh : x.hi ≠ [] := by simpa using hg
          repeat first|refine sgo ?_|refine xAG ?_|refine sop ?_
          refine cnd (fun h2 => ?_) (fun h2 => ?_)
          · rw [if_pos ⟨hxh, h2⟩] at hst
            rw [hst] at hw hlen
            repeat first|refine sgo ?_|refine xAG ?_|refine o_v (vap encS y) ?_|refine sop ?_
            exact agn (k + 1, o ++ [y]) ⟨by simp only; omega, by simp only; omega, hw⟩ goes
          · rw [if_neg (by simp [h2])] at hst
            repeat first|refine sgo ?_|refine xAG ?_|refine cv0 (xJU x.hi y.hi) ?_|refine sop ?_
            refine cnd (fun h3 => ?_) (fun h3 => xAA ?_)
            · rw [if_pos h3, ← hidx] at hst
              rw [hst] at hw hlen
              repeat first|refine sgo ?_|refine xAG ?_|refine o_v (vstf encS (⟨x.lo, y.hi⟩ : SpanL) hx') ?_|refine sop ?_
              exact agn (k + 1, _) ⟨by simp only; omega, by simp only; omega, hw⟩ (goes (h1 := by
                refine ⟨rfl, ?_, rfl, trivial⟩
                exact congrArg (fun n => some (PV.own ⟨1, 8200⟩ n 0 n)) (by simp : (o.map encS).length = _)))
            · rw [if_neg (by simp [h3])] at hst
              rw [hst] at hw hlen
              repeat first|refine sgo ?_|refine sop ?_
              exact agn (k + 1, o) ⟨by simp only; omega, by simp only; omega, hw⟩ goes
        · have hxh : x.hi = [] := by simpa using hg
          rw [if_neg (by simp [hxh])] at hst
          have hl0 : xDC x.hi y.hi = false := by simp [xDC, hxh]
          rw [if_neg (by simp [hl0])] at hst
          rw [hst] at hw hlen
          repeat first|refine sgo ?_|refine xAG ?_|refine sop ?_
          refine cndf ?_
          repeat first|refine sgo ?_|refine xAG ?_|refine cv0 (xJU x.hi y.hi) ?_|refine sop ?_
          refine cndf (xAA ?_)
          repeat first|refine sgo ?_|refine sop ?_
          exact agn (k + 1, o) ⟨by simp only; omega, by simp only; omega, hw⟩ goes
    · have hge : k = sl.length := by have h' := of_decide_eq_false h; simp only [List.length_map] at h'; omega
      subst hge
      rw [List.drop_length, List.foldl_nil] at hw
      repeat first|refine sgo ?_|refine sop ?_
      exact xAC ⟨.inr rfl, oOwn (congrArg (List.map encS) hw)⟩
end Go.Proofs
open Go.V Go.Pu
set_option linter.unusedVariables false
set_option linter.unusedSimpArgs false
set_option maxRecDepth 20000
namespace Go.Proofs
def vc56 := vcm Tryd.prog 56
theorem vf56 : VF Tryd.prog 56 = some (10, vc56, [.tmp 4]) := by kernel_rfl
def vc78 := vcm Tryd.prog 78
theorem vf78 : VF Tryd.prog 78 = some (53, vc78, []) := by kernel_rfl
def vc90 := vcm Tryd.prog 90
theorem vf90 : VF Tryd.prog 90 = some (82, vc90, []) := by kernel_rfl
theorem xBg (a b : SpanL) : VC Tryd.prog 56 [.agg (encS a), .agg (encS b)] [] (.int .i64 (xEJ a.lo b.lo)) [] := by
  refine vcs vf56 ?_
  repeat' first|refine sgo ?_|refine scn ?_|refine cv0 (xRV _ _) ?_|refine sop ?_|refine xAC ⟨.inr rfl, ?_⟩|refine cnd (fun _ => ?_) (fun _ => ?_)|(refine xB1 (fun _ => ?_) (fun _ => ?_) <;> first|refine cv0 (xRV _ _) ?_|refine xAX ?_|refine sop ?_)
  all_goals exact oI rfl
abbrev srt (ys : Array SpanL) : List Blk := [blkV 2 (ys.toList.map encS)]
theorem xAY {zs : List SpanL} {i : Nat} {x : SpanL} {k : Nat} (h : zs[i]? = some x) (hk : k = i) : (blkV 2 (zs.map encS)).els[k]? = some (encS x) := by
  show (zs.map encS)[k]? = _
  rw [hk, List.getElem?_map, h]; rfl
set_option maxHeartbeats 1000000 in
theorem ins_vc {N n : Nat} (xs : List SpanL) (a b : Nat) (hN : xs.length = N) (ha : a ≤ n) (hb : b ≤ n) (hn : n ≤ N) (hm : N ≤ 1000000000) :
    VC Tryd.prog 78 [.own ⟨0, 0⟩ N 0 n, .int .i64 a, .int .i64 b, .fn 56 []] [blkV 2 (xs.map encS)] (.tup []) (srt (Sort.insertionSort ltS xs.toArray a b)) := by
  refine xCC vf78 ?_ (Nat.le_of_ble_eq_true rfl) (by intro vs h; cases h; simp)
  by_cases hab : a + 1 ≤ b
  case neg =>
    have hr : Sort.insertionSort ltS xs.toArray a b = xs.toArray := by unfold Sort.insertionSort; rw [Sort.insOuter, if_neg (by omega)]
    rw [hr]
    repeat first|refine sgo ?_|refine sop ?_
    refine xO9 1 ?_
    repeat first|refine sgo ?_|refine sop ?_
    refine cndf (xAF ?_) rfl (decide_eq_false (by omega))
    exact ⟨.inl rfl, oL1 rfl⟩
  repeat first|refine sgo ?_|refine sop ?_
  refine xAH (fun (g : Nat × List SpanL) => [(0, .own ⟨0, 0⟩ N 0 n), (1, .int .i64 a), (2, .int .i64 b), (3, .fn 56 []), (8, .int .i64 g.1)])
    (fun g => [(⟨0, 0⟩, blkV 2 (g.2.map encS))]) (fun g => b - g.1)
    (fun g => a + 1 ≤ g.1 ∧ g.1 ≤ b ∧ g.2.length = N ∧ Sort.insOuter ltS a b g.1 g.2.toArray = Sort.insertionSort ltS xs.toArray a b) (a + 1, xs) goes ⟨Nat.le_refl _, hab, hN, rfl⟩ ?_
  rintro ⟨i, ys⟩ ⟨hai, hib, hyl, hv⟩
  dsimp only at hai hib hyl hv ⊢
  rw [Sort.insOuter] at hv
  repeat first|refine sgo ?_|refine sop ?_
  refine cnd (fun h => xAA ?_) (fun h => xAF ?_)
  · have hlt : i < b := by have h' := of_decide_eq_true h; omega
    rw [if_pos hlt] at hv
    repeat first|refine sgo ?_|refine sop ?_
    refine xAH (fun (g : Nat × List SpanL) => [(0, .own ⟨0, 0⟩ N 0 n), (1, .int .i64 a), (2, .int .i64 b), (3, .fn 56 []), (8, .int .i64 i), (9, .int .i64 g.1)])
      (fun g => [(⟨0, 0⟩, blkV 2 (g.2.map encS))]) (fun g => g.1)
      (fun g => g.1 ≤ i ∧ g.2.length = N ∧ Sort.insInner ltS a g.1 g.2.toArray = Sort.insInner ltS a i ys.toArray) (i, ys) goes ⟨Nat.le_refl _, hyl, rfl⟩ ?_
    rintro ⟨j, zs⟩ ⟨hji, hzl, hw⟩
    dsimp only at hji hzl hw ⊢
    repeat first|refine sgo ?_|refine sop ?_
    by_cases hja : j > a
    · have hjd : decide ((j : Int) > a) = true := decide_eq_true (by omega)
      obtain ⟨m, rfl⟩ : ∃ m, j = m + 1 := ⟨j - 1, by omega⟩
      obtain ⟨x, hx⟩ : ∃ x, zs[m + 1]? = some x := ⟨_, List.getElem?_eq_getElem (by omega)⟩
      obtain ⟨y, hy⟩ : ∃ y, zs[m]? = some y := ⟨_, List.getElem?_eq_getElem (by omega)⟩
      have hx' := xAY (k := 0 + ((m + 1 : Nat) : Int).toNat) hx (by omega)
      have hy' := xAY (k := 0 + (((m + 1 : Nat) : Int) - 1).toNat) hy (by omega)
      have hk1 : 0 + ((m + 1 : Nat) : Int).toNat = m + 1 := by omega
      have hk2 : 0 + (((m + 1 : Nat) : Int) - 1).toNat = m := by omega
      rw [Sort.insInner, gb hx, gb hy] at hw
      repeat first|refine sgo ?_|refine xAG ?_|refine cv0 (xBg x y) ?_|refine sop ?_
      refine cnd (fun h2 => xAA ?_) (fun h2 => xAF ?_)
      · rw [if_pos (by simp [hja]; exact h2), xBu hx hy, ← hk1, ← hk2] at hw
        rw [hk2] at hw
        repeat first|refine sgo ?_|refine xAG ?_|refine o_v (vst encS y) ?_|refine o_v (vst encS x) ?_|refine sop ?_
        exact agn (m, (zs.set (0 + ((m + 1 : Nat) : Int).toNat) y).set (0 + (((m + 1 : Nat) : Int) - 1).toNat) x) ⟨by simp only; omega, by simp only [List.length_set]; omega, by rw [hk2]; exact hw⟩
          (goes (h1 := by refine ⟨rfl, rfl, rfl, rfl, rfl, congrArg (fun z => some (PV.int .i64 z)) (by omega : ((m + 1 : Nat) : Int) - 1 = m), trivial⟩))
      · rw [if_neg (by simp [h2, ltS])] at hw
        repeat first|refine sgo ?_|refine sop ?_
        exact agn (i + 1, zs) ⟨by simp only; omega, by simp only; omega, hzl, by simp only; rw [hw]; exact hv⟩ goes
    · have hjd : decide ((j : Int) > a) = false := decide_eq_false (by omega)
      have hz : Sort.insInner ltS a j zs.toArray = zs.toArray := by
        cases j with
        | zero => rfl
        | succ m => rw [Sort.insInner, if_neg (by simp; intro; omega)]
      rw [hz] at hw
      repeat first|refine sgo ?_|refine sop ?_
      refine cndf (xAF ?_)
      repeat first|refine sgo ?_|refine sop ?_
      exact agn (i + 1, zs) ⟨by simp only; omega, by simp only; omega, hzl, by simp only; rw [hw]; exact hv⟩ goes
  · have hge : ¬ i < b := by have h' := of_decide_eq_false h; omega
    rw [if_neg hge] at hv
    refine ⟨.inl rfl, oL1 ?_⟩
    rw [← hv]
set_option maxHeartbeats 1000000 in
theorem xN0 {N n : Nat} (xs : List SpanL) (lo hi first : Nat) (hN : xs.length = N) (hf : first + hi ≤ n) (hlo : lo ≤ 1000000000) (hn : n ≤ N) (hm : N ≤ 1000000000) :
    VC Tryd.prog 90 [.own ⟨0, 0⟩ N 0 n, .int .i64 lo, .int .i64 hi, .int .i64 first, .fn 56 []] [blkV 2 (xs.map encS)] (.tup []) (srt (Sort.siftDown ltS hi first lo xs.toArray)) := by
  refine xCC vf90 ?_ (Nat.le_of_ble_eq_true rfl) (by intro vs h; cases h; simp)
  repeat first|refine sgo ?_|refine sop ?_
  refine xAH (fun (g : Nat × List SpanL) => [(0, .own ⟨0, 0⟩ N 0 n), (2, .int .i64 hi), (3, .int .i64 first), (4, .fn 56 []), (10, .int .i64 g.1)])
    (fun g => [(⟨0, 0⟩, blkV 2 (g.2.map encS))]) (fun g => hi - g.1)
    (fun g => g.1 ≤ 1000000000 ∧ g.2.length = N ∧ Sort.siftDown ltS hi first g.1 g.2.toArray = Sort.siftDown ltS hi first lo xs.toArray) (lo, xs) goes ⟨hlo, hN, rfl⟩ ?_
  rintro ⟨r, ys⟩ ⟨hr, hyl, hv⟩
  dsimp only at hr hyl hv ⊢
  rw [Sort.siftDown] at hv
  repeat first|refine sgo ?_|refine sop ?_
  by_cases h1 : 2 * r + 1 ≥ hi
  · rw [dif_pos h1] at hv
    refine cndt (xAF ?_) rfl (decide_eq_true (by omega))
    exact ⟨.inl rfl, oL1 (by rw [← hv])⟩
  · rw [dif_neg h1] at hv
    refine cndf (xAA ?_) rfl (decide_eq_false (by omega))
    obtain ⟨xr, hxr⟩ : ∃ x, ys[first + r]? = some x := ⟨_, List.getElem?_eq_getElem (by omega)⟩
    obtain ⟨xc, hxc⟩ : ∃ x, ys[first + (2 * r + 1)]? = some x := ⟨_, List.getElem?_eq_getElem (by omega)⟩
    have hk1 : 0 + ((first : Int) + (r : Int)).toNat = first + r := by omega
    have hk2 : 0 + ((first : Int) + (2 * (r : Int) + 1)).toNat = first + (2 * r + 1) := by omega
    have her := xAY hxr hk1
    have hec := xAY hxc hk2
    by_cases h2 : 2 * r + 1 + 1 < hi
    · have d2 : decide ((2 * (r : Int) + 1 + 1) < (hi : Int)) = true := decide_eq_true (by omega)
      obtain ⟨xd, hxd⟩ : ∃ x, ys[first + (2 * r + 1) + 1]? = some x := ⟨_, List.getElem?_eq_getElem (by omega)⟩
      have hk3 : 0 + ((first : Int) + (2 * (r : Int) + 1) + 1).toNat = first + (2 * r + 1) + 1 := by omega
      have hk4 : 0 + ((first : Int) + (2 * (r : Int) + 1 + 1)).toNat = first + (2 * r + 2) := by omega
      have hxd2 : ys[first + (2 * r + 2)]? = some xd := hxd
      have hed := xAY hxd hk3
      have hed2 := xAY hxd2 hk4
      rw [gb hxc, gb hxd, gb hxr, gb hxd2] at hv
      repeat first|refine sgo ?_|refine xAG ?_|refine cv0 (xBg xc xd) ?_|refine sop ?_
      refine cnd (fun h3 => ?_) (fun h3 => xAA ?_)
      · rw [if_pos (by simp [h2]; exact h3)] at hv
        repeat first|refine sgo ?_|refine xAG ?_|refine cv0 (xBg xr xd) ?_|refine sop ?_
        refine cnd (fun h4 => ?_) (fun h4 => xAA ?_)
        · rw [if_pos (by simpa [ltS] using h4)] at hv
          exact xAC ⟨.inr rfl, oL1 (by rw [← hv])⟩
        · rw [if_neg (by simpa [ltS] using h4), dif_pos (by omega), xBu hxr hxd2, ← hk1, ← hk4] at hv
          repeat first|refine sgo ?_|refine xAG ?_|refine o_v (vst encS xd) ?_|refine o_v (vst encS xr) ?_|refine sop ?_
          exact agn (2 * r + 2, (ys.set (0 + ((first : Int) + (r : Int)).toNat) xd).set (0 + ((first : Int) + (2 * (r : Int) + 1 + 1)).toNat) xr) ⟨by simp only; omega, by simp only [List.length_set]; omega, hv⟩
            (goes (h1 := by refine ⟨rfl, rfl, rfl, rfl, congrArg (fun z => some (PV.int .i64 z)) (by omega : 2 * (r : Int) + 1 + 1 = ((2 * r + 2 : Nat) : Int)), trivial⟩))
      · rw [if_neg (by simp; intro; simpa [ltS] using h3)] at hv
        repeat first|refine sgo ?_|refine xAG ?_|refine cv0 (xBg xr xc) ?_|refine sop ?_
        refine cnd (fun h4 => ?_) (fun h4 => xAA ?_)
        · rw [if_pos (by simpa [ltS] using h4)] at hv
          exact xAC ⟨.inr rfl, oL1 (by rw [← hv])⟩
        · rw [if_neg (by simpa [ltS] using h4), xBu hxr hxc, ← hk1, ← hk2] at hv
          repeat first|refine sgo ?_|refine xAG ?_|refine o_v (vst encS xc) ?_|refine o_v (vst encS xr) ?_|refine sop ?_
          exact agn (2 * r + 1, (ys.set (0 + ((first : Int) + (r : Int)).toNat) xc).set (0 + ((first : Int) + (2 * (r : Int) + 1)).toNat) xr) ⟨by simp only; omega, by simp only [List.length_set]; omega, hv⟩
            (goes (h1 := by refine ⟨rfl, rfl, rfl, rfl, congrArg (fun z => some (PV.int .i64 z)) (by omega : 2 * (r : Int) + 1 = ((2 * r + 1 : Nat) : Int)), trivial⟩))
    · have d2 : decide ((2 * (r : Int) + 1 + 1) < (hi : Int)) = false := decide_eq_false (by omega)
      rw [if_neg (by simp [h2]), gb hxr, gb hxc] at hv
      repeat first|refine sgo ?_|refine sop ?_
      refine cndf (xAA ?_)
      repeat first|refine sgo ?_|refine xAG ?_|refine cv0 (xBg xr xc) ?_|refine sop ?_
      refine cnd (fun h4 => ?_) (fun h4 => xAA ?_)
      · rw [if_pos (by simpa [ltS] using h4)] at hv
        exact xAC ⟨.inr rfl, oL1 (by rw [← hv])⟩
      · rw [if_neg (by simpa [ltS] using h4), xBu hxr hxc, ← hk1, ← hk2] at hv
        repeat first|refine sgo ?_|refine xAG ?_|refine o_v (vst encS xc) ?_|refine o_v (vst encS xr) ?_|refine sop ?_
        exact agn (2 * r + 1, (ys.set (0 + ((first : Int) + (r : Int)).toNat) xc).set (0 + ((first : Int) + (2 * (r : Int) + 1)).toNat) xr) ⟨by simp only; omega, by simp only [List.length_set]; omega, hv⟩
          (goes (h1 := by refine ⟨rfl, rfl, rfl, rfl, congrArg (fun z => some (PV.int .i64 z)) (by omega : 2 * (r : Int) + 1 = ((2 * r + 1 : Nat) : Int)), trivial⟩))
end Go.Proofs
open Go.V Go.Pu
set_option linter.unusedVariables false
set_option linter.unusedSimpArgs false
set_option maxRecDepth 20000
namespace Go.Proofs
def vc79 := vcm Tryd.prog 79
theorem vf79 : VF Tryd.prog 79 = some (60, vc79, []) := by kernel_rfl
theorem xJD {k : IntKind} {n m : Nat} {z : Int} (hz : z = n) (hm : 0 < m) (hw : k.wrap ((n / m : Nat) : Int) = ((n / m : Nat) : Int)) : bin .quo (.int k z) (.int k (m : Nat)) = some (.int k ((n / m : Nat) : Int)) := by
  subst hz
  have h1 : ((m : Nat) : Int) ≠ 0 := by omega
  have h2 : (n : Int).tdiv (m : Int) = ((n / m : Nat) : Int) := rfl
  simp only [bin, if_true, xEM, if_neg h1, h2, hw]
set_option maxHeartbeats 1000000 in
theorem xSm {N n : Nat} (xs : List SpanL) (a b : Nat) (hN : xs.length = N) (hab : a < b) (hb : b ≤ n) (hn : n ≤ N) (hm : N ≤ 1000000000) :
    VC Tryd.prog 79 [.own ⟨0, 0⟩ N 0 n, .int .i64 a, .int .i64 b, .fn 56 []] [blkV 2 (xs.map encS)] (.tup []) (srt (Sort.heapSort ltS xs.toArray a b)) := by
  refine xCC vf79 ?_ (Nat.le_of_ble_eq_true rfl) (by intro vs h; cases h; simp)
  have hq := xJD (k := .i64) (n := b - a - 1) (m := 2) (z := (b : Int) - a - 1) (by omega) (by omega) (xDE (by omega) (by omega))
  repeat first|refine sgo ?_|refine xCQ hq ?_|refine sop ?_
  refine xAH (fun (g : Nat × List SpanL) => [(0, .own ⟨0, 0⟩ N 0 n), (3, .fn 56 []), (8, .int .i64 a), (9, .int .i64 0), (10, .int .i64 ((b : Int) - a)), (11, .int .i64 ((g.1 : Int) - 1))])
    (fun g => [(⟨0, 0⟩, blkV 2 (g.2.map encS))]) (fun g => g.1)
    (fun g => g.1 ≤ b - a ∧ g.2.length = N ∧ Sort.heapBuild ltS (b - a) a g.1 g.2.toArray = Sort.heapBuild ltS (b - a) a ((b - a - 1) / 2 + 1) xs.toArray) ((b - a - 1) / 2 + 1, xs)
    (goes (h1 := by refine ⟨rfl, rfl, rfl, rfl, rfl, congrArg (fun z => some (PV.int .i64 z)) (by omega), trivial⟩)) ⟨by omega, hN, rfl⟩ ?_
  rintro ⟨k, ys⟩ ⟨hk, hyl, hv⟩
  dsimp only at hk hyl hv ⊢
  repeat first|refine sgo ?_|refine sop ?_
  cases k with
  | succ k =>
    refine cndt (xAA ?_) rfl (decide_eq_true (by omega))
    rw [Sort.heapBuild] at hv
    have hs := xCb ltS (b - a) a k ys.toArray
    have hi : (((k + 1 : Nat) : Int) - 1) = (k : Nat) := by omega
    have hh : (b : Int) - a = ((b - a : Nat) : Int) := by omega
    have hc := xN0 (n := n) ys k (b - a) a hyl (by omega) (by omega) hn hm
    rw [← hi, ← hh] at hc
    repeat first|refine sgo ?_|refine cl (lent := [⟨0, 0⟩]) hc ?_|refine sop ?_
    exact agn (k, (Sort.siftDown ltS (b - a) a k ys.toArray).toList) ⟨by simp only; omega, by simpa using hs.trans (by simpa using hyl), by simpa using hv⟩
      (goes (h1 := by refine ⟨rfl, rfl, rfl, rfl, rfl, congrArg (fun z => some (PV.int .i64 z)) (by omega : ((k + 1 : Nat) : Int) - 1 - 1 = (k : Int) - 1), trivial⟩))
  | zero =>
    refine cndf (xAF ?_) rfl (decide_eq_false (by omega))
    rw [Sort.heapBuild] at hv
    repeat first|refine sgo ?_|refine sop ?_
    refine xAH (fun (g : Nat × List SpanL) => [(0, .own ⟨0, 0⟩ N 0 n), (3, .fn 56 []), (8, .int .i64 a), (9, .int .i64 0), (12, .int .i64 ((g.1 : Int) - 1))])
      (fun g => [(⟨0, 0⟩, blkV 2 (g.2.map encS))]) (fun g => g.1)
      (fun g => g.1 ≤ b - a ∧ g.2.length = N ∧ Sort.heapPop ltS a g.1 g.2.toArray = Sort.heapSort ltS xs.toArray a b) (b - a, ys)
      (goes (h1 := by refine ⟨rfl, rfl, rfl, rfl, congrArg (fun z => some (PV.int .i64 z)) (by omega), trivial⟩)) ⟨by omega, hyl, by unfold Sort.heapSort; rw [hv]⟩ ?_
    rintro ⟨k, zs⟩ ⟨hk, hzl, hw⟩
    dsimp only at hk hzl hw ⊢
    repeat first|refine sgo ?_|refine sop ?_
    cases k with
    | succ k =>
      refine cndt (xAA ?_) rfl (decide_eq_true (by omega))
      rw [Sort.heapPop] at hw
      obtain ⟨x, hx⟩ : ∃ x, zs[a]? = some x := ⟨_, List.getElem?_eq_getElem (by omega)⟩
      obtain ⟨y, hy⟩ : ∃ y, zs[a + k]? = some y := ⟨_, List.getElem?_eq_getElem (by omega)⟩
      have hk1 : 0 + (a : Int).toNat = a := by omega
      have hk2 : 0 + ((a : Int) + (((k + 1 : Nat) : Int) - 1)).toNat = a + k := by omega
      have hx' := xAY hx hk1
      have hy' := xAY hy hk2
      rw [xBu hx hy] at hw
      have hi : (((k + 1 : Nat) : Int) - 1) = (k : Nat) := by omega
      have hzl2 : ((zs.set a y).set (a + k) x).length = N := by simp only [List.length_set]; exact hzl
      have hs := xCb ltS k a 0 ((zs.set a y).set (a + k) x).toArray
      have hc := xN0 (n := n) ((zs.set a y).set (a + k) x) 0 k a hzl2 (by omega) (by omega) hn hm
      rw [← hi] at hc
      have hc' : VC Tryd.prog 90 [.own ⟨0, 0⟩ N 0 n, .int .i64 0, .int .i64 (((k + 1 : Nat) : Int) - 1), .int .i64 a, .fn 56 []] [blkV 2 (((zs.set (0 + (a : Int).toNat) y).set (0 + ((a : Int) + (((k + 1 : Nat) : Int) - 1)).toNat) x).map encS)] (.tup []) (srt (Sort.siftDown ltS k a 0 ((zs.set a y).set (a + k) x).toArray)) := by rw [hk1, hk2]; exact hc
      repeat first|refine sgo ?_|refine xAG ?_|refine o_v (vst encS y) ?_|refine o_v (vst encS x) ?_|refine cl (lent := [⟨0, 0⟩]) hc' ?_|refine sop ?_
      exact agn (k, (Sort.siftDown ltS k a 0 ((zs.set a y).set (a + k) x).toArray).toList) ⟨by simp only; omega, by simpa using hs.trans (by simpa using hzl), by simpa using hw⟩
        (goes (h1 := by refine ⟨rfl, rfl, rfl, rfl, congrArg (fun z => some (PV.int .i64 z)) (by omega : ((k + 1 : Nat) : Int) - 1 - 1 = (k : Int) - 1), trivial⟩))
    | zero =>
      refine cndf (xAF ?_) rfl (decide_eq_false (by omega))
      rw [Sort.heapPop] at hw
      exact ⟨.inl rfl, oL1 (by rw [← hw])⟩
end Go.Proofs
open Go.V Go.Pu
set_option linter.unusedVariables false
set_option linter.unusedSimpArgs false
set_option maxRecDepth 20000
namespace Go.Proofs
def vc72 := vcm Tryd.prog 72
theorem vf72 : VF Tryd.prog 72 = some (8, vc72, [.tmp 2]) := by kernel_rfl
def vc87 := vcm Tryd.prog 87
theorem vf87 : VF Tryd.prog 87 = some (25, vc87, [.tmp 2]) := by kernel_rfl
def vc91 := vcm Tryd.prog 91
theorem vf91 : VF Tryd.prog 91 = some (7, vc91, [.tmp 2]) := by kernel_rfl
def vc92 := vcm Tryd.prog 92
theorem vf92 : VF Tryd.prog 92 = some (33, vc92, [.tmp 2]) := by kernel_rfl
abbrev tab8 : List UInt8 := [0, 1, 2, 2, 3, 3, 3, 3, 4, 4, 4, 4, 4, 4, 4, 4, 5, 5, 5, 5, 5, 5, 5, 5, 5, 5, 5, 5, 5, 5, 5, 5, 6, 6, 6, 6, 6, 6, 6, 6, 6, 6, 6, 6, 6, 6, 6, 6, 6, 6, 6, 6, 6, 6, 6, 6, 6, 6, 6, 6, 6, 6, 6, 6, 7, 7, 7, 7, 7, 7, 7, 7, 7, 7, 7, 7, 7, 7, 7, 7, 7, 7, 7, 7, 7, 7, 7, 7, 7, 7, 7, 7, 7, 7, 7, 7, 7, 7, 7, 7, 7, 7, 7, 7, 7, 7, 7, 7, 7, 7, 7, 7, 7, 7, 7, 7, 7, 7, 7, 7, 7, 7, 7, 7, 7, 7, 7, 7, 8, 8, 8, 8, 8, 8, 8, 8, 8, 8, 8, 8, 8, 8, 8, 8, 8, 8, 8, 8, 8, 8, 8, 8, 8, 8, 8, 8, 8, 8, 8, 8, 8, 8, 8, 8, 8, 8, 8, 8, 8, 8, 8, 8, 8, 8, 8, 8, 8, 8, 8, 8, 8, 8, 8, 8, 8, 8, 8, 8, 8, 8, 8, 8, 8, 8, 8, 8, 8, 8, 8, 8, 8, 8, 8, 8, 8, 8, 8, 8, 8, 8, 8, 8, 8, 8, 8, 8, 8, 8, 8, 8, 8, 8, 8, 8, 8, 8, 8, 8, 8, 8, 8, 8, 8, 8, 8, 8, 8, 8, 8, 8, 8, 8, 8, 8, 8, 8, 8, 8, 8, 8, 8, 8, 8, 8, 8, 8]
def tabOk (n : Nat) : Bool := match tab8[n]? with | some c => c.toNat == Sort.bitsLen n | none => false
theorem xRn : (List.range 256).all tabOk = true := by decide +kernel
theorem xNj {n : Nat} (h : n < 256) : ∃ c : UInt8, tab8[n]? = some c ∧ c.toNat = Sort.bitsLen n := by
  have := List.all_eq_true.1 xRn n (List.mem_range.2 h)
  unfold tabOk at this
  cases hc : tab8[n]? with
  | none => rw [hc] at this; cases this
  | some c => rw [hc] at this; exact ⟨c, rfl, by simpa using this⟩
theorem xNW {n : Nat} (h : 256 ≤ n) : Sort.bitsLen n = 8 + Sort.bitsLen (n / 256) := by
  unfold Sort.bitsLen
  have h1 : n ≠ 0 := by omega
  have h2 : n / 256 ≠ 0 := by omega
  rw [if_neg h1, if_neg h2]
  have h3 := (Nat.log2_eq_iff h2 (k := (n / 256).log2)).1 rfl
  have h4 : n.log2 = (n / 256).log2 + 8 := by
    refine (Nat.log2_eq_iff h1).2 ⟨?_, ?_⟩
    · rw [Nat.pow_add]; omega
    · rw [Nat.pow_succ] at h3
      rw [Nat.pow_succ, Nat.pow_add]; omega
  omega
theorem xPP {n : Nat} (h : n < 65536) : Sort.bitsLen n ≤ 16 := by
  unfold Sort.bitsLen
  split
  · omega
  · rename_i h0
    have : n.log2 < 16 := (Nat.log2_lt h0).2 (by simpa using h)
    omega
theorem xR0 {n : Nat} : bin .shr (.int .u64 (n : Nat)) (.int .u64 8) = some (.int .u64 ((n / 256 : Nat) : Int)) := by
  show (if (8 : Int) < 0 then none else some (PV.int .u64 ((n : Int).fdiv (2 ^ (Int.toNat 8))))) = _
  rw [if_neg (by decide), Int.fdiv_eq_ediv_of_nonneg _ (by decide)]
  rfl
theorem xQa {n : Nat} (hn : n < 65536) : VC Tryd.prog 87 [.int .u64 n] [] (.int .i64 (Sort.bitsLen n)) [] := by
  refine vcs vf87 ?_
  by_cases h : n < 256
  · obtain ⟨c, hc, hcl⟩ := xNj h
    have hc' : tab8[(n : Int).toNat]? = some c := hc
    have hcu : IntKind.u8.wrap (n : Int) = n := by unfold IntKind.wrap; simp [IntKind.bits, IntKind.signed]; omega
    have hci : IntKind.i64.wrap (c.toNat : Int) = c.toNat := xDE (by omega) (by have := c.toNat_lt; omega)
    have hcb : c.toNat < 256 := c.toNat_lt
    repeat first|refine sgo ?_|refine sop ?_
    refine cndf (xAA ?_) rfl (decide_eq_false (by omega))
    repeat first|refine sgo ?_|refine sop ?_
    refine cndf (xAA ?_) rfl (decide_eq_false (by omega))
    repeat first|refine sgo ?_|refine sop ?_
    refine cndf (xAA ?_) rfl (decide_eq_false (by omega))
    repeat first|refine sgo ?_|refine xBb ?_|refine sop ?_
    refine xAC ⟨.inr rfl, oI ?_⟩
    rw [hcl]; omega
  · obtain ⟨c, hc, hcl⟩ := xNj (n := n / 256) (by omega)
    have hc' : tab8[((n / 256 : Nat) : Int).toNat]? = some c := hc
    have hcu : IntKind.u8.wrap ((n / 256 : Nat) : Int) = ((n / 256 : Nat) : Int) := by unfold IntKind.wrap; simp [IntKind.bits, IntKind.signed]; omega
    have hci : IntKind.i64.wrap (c.toNat : Int) = c.toNat := xDE (by omega) (by have := c.toNat_lt; omega)
    have hcb : c.toNat < 256 := c.toNat_lt
    have hb := xNW (n := n) (by omega)
    repeat first|refine sgo ?_|refine sop ?_
    refine cndf (xAA ?_) rfl (decide_eq_false (by omega))
    repeat first|refine sgo ?_|refine sop ?_
    refine cndf (xAA ?_) rfl (decide_eq_false (by omega))
    repeat first|refine sgo ?_|refine sop ?_
    refine cndt ?_ rfl (decide_eq_true (by omega))
    repeat first|refine sgo ?_|refine xCQ xR0 ?_|refine xBb ?_|refine sop ?_
    refine xAC ⟨.inr rfl, oI ?_⟩
    rw [hcl, hb]; omega
theorem xRK {n : Nat} (hn : n < 65536) : VC Tryd.prog 72 [.int .u64 n] [] (.int .i64 (Sort.bitsLen n)) [] := by
  refine vcs vf72 ?_
  repeat first|refine sgo ?_|refine sop ?_
  refine cndf (xAA ?_) rfl rfl
  repeat first|refine sgo ?_|refine cv0 (xQa hn) ?_|refine sop ?_
  exact xAC ⟨.inr rfl, oI rfl⟩
theorem xR1 {k : Nat} (hk : k ≤ 16) : bin .shl (.int .u64 1) (.int .i64 k) = some (.int .u64 ((1 <<< k : Nat) : Int)) := by
  show (if (k : Int) < 0 then none else some (PV.int .u64 (IntKind.u64.wrap (1 * 2 ^ (min (Int.toNat k) 64))))) = _
  rw [if_neg (by omega)]
  have h1 : min (Int.toNat k) 64 = k := by omega
  have h2 : 2 ^ k ≤ 2 ^ 16 := Nat.pow_le_pow_right (by decide) hk
  rw [h1, Nat.one_shiftLeft]
  have h3 : (1 : Int) * 2 ^ k = ((2 ^ k : Nat) : Int) := by simp
  rw [h3]
  have : IntKind.u64.wrap ((2 ^ k : Nat) : Int) = ((2 ^ k : Nat) : Int) := by
    unfold IntKind.wrap
    have h4 : 2 ^ k < 2 ^ 64 := by omega
    generalize 2 ^ k = x at h4
    simp [IntKind.bits, IntKind.signed]
    omega
  rw [this]
theorem xSV {n : Nat} (hn : n < 65536) : VC Tryd.prog 91 [.int .i64 n] [] (.int .u64 ((1 <<< Sort.bitsLen n : Nat) : Int)) [] := by
  refine vcs vf91 ?_
  have hcu : IntKind.u64.wrap (n : Int) = n := by unfold IntKind.wrap; simp [IntKind.bits, IntKind.signed]; omega
  have hs := xR1 (xPP hn)
  repeat first|refine sgo ?_|refine xBb ?_|refine cv0 (xRK hn) ?_|refine xCQ hs ?_|refine sop ?_
  exact xAC ⟨.inr rfl, oI rfl⟩
theorem xOM (r : UInt64) : BitVec.ofInt 64 (r.toNat : Int) = r.toBitVec := by
  apply BitVec.eq_of_toNat_eq
  rw [BitVec.toNat_ofInt]
  have := r.toNat_lt
  have h : (r.toNat : Int) % ((2 ^ 64 : Nat) : Int) = (r.toNat : Int) := Int.emod_eq_of_lt (by omega) (by omega)
  rw [h]; rfl
theorem xGi {n : Nat} (h : n < 18446744073709551616) : IntKind.u64.wrap (n : Int) = n := by
  unfold IntKind.wrap; simp [IntKind.bits, IntKind.signed]; omega
theorem xK0 (r s : UInt64) : bin .xor (.int .u64 r.toNat) (.int .u64 s.toNat) = some (.int .u64 (r ^^^ s).toNat) := by
  show some (PV.int .u64 (IntKind.u64.wrap (BitVec.ofInt 64 r.toNat ^^^ BitVec.ofInt 64 s.toNat).toNat)) = _
  rw [xOM, xOM, xGi (BitVec.isLt _)]
  rfl
theorem xN1 (r : UInt64) (k : UInt64) (hk : k.toNat < 64) : bin .shl (.int .u64 r.toNat) (.int .u64 k.toNat) = some (.int .u64 (r <<< k).toNat) := by
  show (if ((k.toNat : Nat) : Int) < 0 then none else some (PV.int .u64 (IntKind.u64.wrap ((r.toNat : Int) * 2 ^ (min (Int.toNat k.toNat) 64))))) = _
  rw [if_neg (by omega)]
  have h1 : min (Int.toNat k.toNat) 64 = k.toNat := by omega
  have h2 : (r.toNat : Int) * 2 ^ k.toNat = ((r.toNat * 2 ^ k.toNat : Nat) : Int) := by simp
  rw [h1, h2]
  have h3 : IntKind.u64.wrap ((r.toNat * 2 ^ k.toNat : Nat) : Int) = ((r <<< k).toNat : Int) := by
    rw [UInt64.toNat_shiftLeft, Nat.mod_eq_of_lt hk, Nat.shiftLeft_eq]
    unfold IntKind.wrap; simp [IntKind.bits, IntKind.signed]
  rw [h3]
theorem xRz (r : UInt64) (k : UInt64) (hk : k.toNat < 64) : bin .shr (.int .u64 r.toNat) (.int .u64 k.toNat) = some (.int .u64 (r >>> k).toNat) := by
  show (if ((k.toNat : Nat) : Int) < 0 then none else some (PV.int .u64 ((r.toNat : Int).fdiv (2 ^ (min (Int.toNat k.toNat) 64))))) = _
  rw [if_neg (by omega)]
  have h1 : min (Int.toNat k.toNat) 64 = k.toNat := by omega
  rw [h1]
  have h3 : (r.toNat : Int).fdiv (2 ^ k.toNat) = ((r >>> k).toNat : Int) := by
    rw [UInt64.toNat_shiftRight, Nat.mod_eq_of_lt hk, Nat.shiftRight_eq_div_pow, Int.fdiv_eq_ediv_of_nonneg _ (Int.pow_nonneg (by decide))]
    simp
  rw [h3]
theorem xSW (r : UInt64) : VC Tryd.prog 92 [.ptr ⟨0, 0⟩ 1 0 0] [⟨true, false, 1, [[.int .u64 r.toNat]]⟩] (.int .u64 (Sort.xorNext r).toNat) [⟨true, false, 1, [[.int .u64 (Sort.xorNext r).toNat]]⟩] := by
  refine vcs vf92 ?_
  have a1 := xN1 r 13 (by decide)
  have a2 := xK0 r (r <<< 13)
  have a3 := xRz (r ^^^ (r <<< 13)) 7 (by decide)
  have a4 := xK0 (r ^^^ (r <<< 13)) ((r ^^^ (r <<< 13)) >>> 7)
  have a5 := xN1 ((r ^^^ (r <<< 13)) ^^^ ((r ^^^ (r <<< 13)) >>> 7)) 17 (by decide)
  have a6 := xK0 ((r ^^^ (r <<< 13)) ^^^ ((r ^^^ (r <<< 13)) >>> 7)) (((r ^^^ (r <<< 13)) ^^^ ((r ^^^ (r <<< 13)) >>> 7)) <<< 17)
  repeat first|refine sgo ?_|refine xCQ a1 ?_|refine xCQ a2 ?_|refine xCQ a3 ?_|refine xCQ a4 ?_|refine xCQ a5 ?_|refine xCQ a6 ?_|refine sop ?_
  exact xAC ⟨.inr rfl, oX1 rfl⟩
end Go.Proofs
