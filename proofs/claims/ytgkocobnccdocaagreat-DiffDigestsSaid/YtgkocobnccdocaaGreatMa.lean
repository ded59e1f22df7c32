/- Ma -/
import Derived.Test.YtgkocobnccdocaaGreatSa
import Derived.Test.YtgkocobnccdocaaGreatPu
open Go.V Go.Pu
set_option linter.unusedVariables false
set_option linter.unusedSimpArgs false
set_option maxRecDepth 20000
namespace Go.Proofs
def vc83 := vcm Tryz.prog 83
theorem vf83 : VF Tryz.prog 83 = some (8, vc83, [.tmp 2]) := by kernel_rfl
def vc49 := vcm Tryz.prog 49
theorem vf49 : VF Tryz.prog 49 = some (13, vc49, [.tmp 2]) := by kernel_rfl
def vc50 := vcm Tryz.prog 50
theorem vf50 : VF Tryz.prog 50 = some (8, vc50, [.tmp 2]) := by kernel_rfl
abbrev encM (m : MsgL) : List PV := [.int .i64 m.kind, .str m.key, .str m.val, .str m.sp.lo, .str m.sp.hi, .str m.fr, .str m.to, .int .i64 m.n]
theorem tm (n m : Nat) : Int.tmod (n : Int) (m : Int) = ((n % m : Nat) : Int) := by
  rw [Int.tmod_eq_emod_of_nonneg (by omega)]; rfl
theorem xVI (n : Nat) : VC Tryz.prog 83 [.int .u8 n] [] (.str (xDS n)) [] := by
  have h1 : Int.tmod (n : Int) 5 = ((n % 5 : Nat) : Int) := tm n 5
  have hlt : n % 5 < 5 := Nat.mod_lt _ (by omega)
  have hx : (paths5.map fun s => [PV.str s])[((n % 5 : Nat) : Int).toNat]? = some [.str (xDS n)] := by
    unfold xDS paths5
    rw [Int.toNat_natCast]
    generalize n % 5 = m at hlt
    match m, hlt with
    | 0, _ => rfl
    | 1, _ => rfl
    | 2, _ => rfl
    | 3, _ => rfl
    | 4, _ => rfl
  refine vcs vf83 ?_
  repeat first|refine sgo ?_|refine xOn ?_|refine sop ?_
  exact xAC ⟨.inr rfl, oS rfl⟩
theorem val_vc (n : Nat) : VC Tryz.prog 50 [.int .u8 n] [] (.str (valM n)) [] := by
  have h1 : Int.tmod (n : Int) 5 = ((n % 5 : Nat) : Int) := tm n 5
  have hlt : n % 5 < 5 := Nat.mod_lt _ (by omega)
  have hx : (vals5.map fun s => [PV.str s])[((n % 5 : Nat) : Int).toNat]? = some [.str (valM n)] := by
    unfold valM vals5
    rw [Int.toNat_natCast]
    generalize n % 5 = m at hlt
    match m, hlt with
    | 0, _ => rfl
    | 1, _ => rfl
    | 2, _ => rfl
    | 3, _ => rfl
    | 4, _ => rfl
  refine vcs vf50 ?_
  repeat first|refine sgo ?_|refine xOn ?_|refine sop ?_
  exact xAC ⟨.inr rfl, oS rfl⟩
theorem quoN {k : IntKind} {n m : Nat} {z : Int} (hz : z = n) (hm : 0 < m) (hw : k.wrap ((n / m : Nat) : Int) = ((n / m : Nat) : Int)) : bin .quo (.int k z) (.int k (m : Nat)) = some (.int k ((n / m : Nat) : Int)) := by
  subst hz
  have h1 : ((m : Nat) : Int) ≠ 0 := by omega
  have h2 : (n : Int).tdiv (m : Int) = ((n / m : Nat) : Int) := rfl
  simp only [bin, if_true, xEx, if_neg h1, h2, hw]
theorem wrap8 {n : Nat} (h : n < 256) : IntKind.u8.wrap (n : Int) = (n : Int) := by
  simp [IntKind.wrap, IntKind.bits, IntKind.signed]
  omega
theorem xVq {n : Nat} (hn : n < 256) : VC Tryz.prog 49 [.int .u8 n] [] (.str (keyM n)) [] := by
  have h1 : Int.tmod (n : Int) 4 = ((n % 4 : Nat) : Int) := tm n 4
  have hp := xVI (n % 4)
  have hq : bin .quo (.int .u8 (n : Int)) (.int .u8 4) = some (.int .u8 ((n / 4 : Nat) : Int)) := quoN (k := .u8) (n := n) (m := 4) rfl (by omega) (wrap8 (by omega))
  have h2 : Int.tmod ((n / 4 : Nat) : Int) 5 = ((n / 4 % 5 : Nat) : Int) := tm (n / 4) 5
  have hlt : n / 4 % 5 < 5 := Nat.mod_lt _ (by omega)
  have hx : (ends5.map fun s => [PV.str s])[((n / 4 % 5 : Nat) : Int).toNat]? = some [.str (endM (n / 4))] := by
    unfold endM ends5
    rw [Int.toNat_natCast]
    generalize n / 4 % 5 = m at hlt
    match m, hlt with
    | 0, _ => rfl
    | 1, _ => rfl
    | 2, _ => rfl
    | 3, _ => rfl
    | 4, _ => rfl
  have hl1 := (xC5 (xC4 (n % 4))).1
  have hl2 : ∀ p ∈ ends5, p.length ≤ 3 := by decide
  have hl3 := hl2 _ (xRL (n / 4))
  refine vcs vf49 ?_
  repeat first|refine sgo ?_|refine xOn ?_|refine cv0 hp ?_|refine xBE hq ?_|refine sop ?_
  exact xAC ⟨.inr rfl, oS rfl⟩
end Go.Proofs
open Go.V Go.Pu
set_option linter.unusedVariables false
set_option linter.unusedSimpArgs false
set_option maxRecDepth 20000
namespace Go.Proofs
end Go.Proofs
open Go.V Go.Pu
set_option linter.unusedVariables false
set_option linter.unusedSimpArgs false
set_option maxRecDepth 20000
namespace Go.Proofs
def vc68 := vcm Tryz.prog 68
theorem vf68 : VF Tryz.prog 68 = some (29, vc68, [.tmp 2]) := by kernel_rfl
def vc264 := vcm Tryz.prog 264
theorem vf264 : VF Tryz.prog 264 = some (3, vc264, [.tmp 2]) := by kernel_rfl
def vc267 := vcm Tryz.prog 267
theorem vf267 : VF Tryz.prog 267 = some (7, vc267, [.tmp 2]) := by kernel_rfl
def vc283 := vcm Tryz.prog 283
theorem vf283 : VF Tryz.prog 283 = some (3, vc283, [.tmp 2]) := by kernel_rfl
def vc286 := vcm Tryz.prog 286
theorem vf286 : VF Tryz.prog 286 = some (7, vc286, [.tmp 2]) := by kernel_rfl
def vc294 := vcm Tryz.prog 294
theorem vf294 : VF Tryz.prog 294 = some (3, vc294, [.tmp 2]) := by kernel_rfl
def vc297 := vcm Tryz.prog 297
theorem vf297 : VF Tryz.prog 297 = some (6, vc297, [.tmp 2]) := by kernel_rfl
def vc301 := vcm Tryz.prog 301
theorem vf301 : VF Tryz.prog 301 = some (7, vc301, [.tmp 2]) := by kernel_rfl
def vc304 := vcm Tryz.prog 304
theorem vf304 : VF Tryz.prog 304 = some (10, vc304, [.tmp 2]) := by kernel_rfl
def vc312 := vcm Tryz.prog 312
theorem vf312 : VF Tryz.prog 312 = some (7, vc312, [.tmp 2]) := by kernel_rfl
def vc315 := vcm Tryz.prog 315
theorem vf315 : VF Tryz.prog 315 = some (7, vc315, [.tmp 2]) := by kernel_rfl
def vc318 := vcm Tryz.prog 318
theorem vf318 : VF Tryz.prog 318 = some (6, vc318, [.tmp 2]) := by kernel_rfl
def vc321 := vcm Tryz.prog 321
theorem vf321 : VF Tryz.prog 321 = some (6, vc321, [.tmp 2]) := by kernel_rfl
def vc139 := vcm Tryz.prog 139
theorem vf139 : VF Tryz.prog 139 = some (10, vc139, [.tmp 2]) := by kernel_rfl
def vc141 := vcm Tryz.prog 141
theorem vf141 : VF Tryz.prog 141 = some (8, vc141, [.tmp 2]) := by kernel_rfl
def vc142 := vcm Tryz.prog 142
theorem vf142 : VF Tryz.prog 142 = some (10, vc142, [.tmp 2]) := by kernel_rfl
theorem xEz : ∀ {l : List PV}, All2 PLe l l
  | [] => .nil
  | _ :: _ => .cons (PLe.refl _) xEz
structure MsgSz (m : MsgL) : Prop where
  k : 1 ≤ m.kind ∧ m.kind ≤ 6
  key : m.key.length ≤ 1000000
  fr : m.fr.length ≤ 1000000
  to : m.to.length ≤ 1000000
theorem MsgSz.of {m : MsgL} {b : Nat} (h1 : MsgOk m) (h2 : MsgLen b m) (hb : b ≤ 100000 := by decide) : MsgSz m := ⟨h1.k, by have := h2.key; omega, by have := h2.fr; omega, by have := h2.to; omega⟩
theorem xCm {f : Nat} {args : List PV} {l : List SpanL} (h : VC Tryz.prog f args [] (ownV ⟨0, 0⟩ (l.map encS)) [blkV 2 (l.map encS)]) : VC Tryz.prog f args [] (.sh false (l.map encS)) [] := xEA h (xAZ rfl rfl)
theorem xNA {f : Nat} {args : List PV} (h : VC Tryz.prog f args [] .nils []) : VC Tryz.prog f args [] (.sh false (([] : List SpanL).map encS)) [] := xCQ h xEz (PLe.sl (.inl ⟨rfl, rfl⟩))
theorem vifc {t lvl site : Nat} {tf : TF} {hf : HF} {x : VX} {cs : List PV} (hx : ev tf x = some (.agg cs) := by rfl) (hc : cs.all closed = true := by rfl) : vop lvl site tf hf (.mkifc t x) = some ⟨.ifc t cs, [], []⟩ := by
  simp only [vop, hx, Option.bind_some, if_pos hc]; rfl
theorem visn {t lvl site : Nat} {tf : TF} {hf : HF} {x : VX} {cs : List PV} (hx : ev tf x = some (.ifc t cs) := by rfl) : vop lvl site tf hf (.isnili true x) = some ⟨.bool true, [], []⟩ := by
  simp only [vop, hx, Option.bind_some]; rfl
theorem xUX {m : MsgL} (hm : MsgSz m) : VC Tryz.prog 267 [.agg (encM m)] [] (.sh false ([oneL m.key].map encS)) [] := by
  have h := xQV m.key (by have := hm.key; omega)
  refine xCm ?_
  refine vcs vf267 ?_
  repeat first|refine sgo ?_|refine cv0 h ?_|refine sop ?_
  exact xAC ⟨.inr rfl, oOwn rfl⟩
theorem xUY {m : MsgL} (hm : MsgSz m) : VC Tryz.prog 286 [.agg (encM m)] [] (.sh false ([oneL m.key].map encS)) [] := by
  have h := xQV m.key (by have := hm.key; omega)
  refine xCm ?_
  refine vcs vf286 ?_
  repeat first|refine sgo ?_|refine cv0 h ?_|refine sop ?_
  exact xAC ⟨.inr rfl, oOwn rfl⟩
theorem xR6 (m : MsgL) : VC Tryz.prog 297 [.agg (encM m)] [] (.sh false ([m.sp].map encS)) [] := by
  refine xCm ?_
  refine vcs vf297 ?_
  repeat first|refine sgo ?_|refine sop ?_
  exact xAC ⟨.inr rfl, oOwn rfl⟩
theorem xPH (m : MsgL) : VC Tryz.prog 321 [.agg (encM m)] [] (.sh false ([m.sp].map encS)) [] := by
  refine xCm ?_
  refine vcs vf321 ?_
  repeat first|refine sgo ?_|refine sop ?_
  exact xAC ⟨.inr rfl, oOwn rfl⟩
theorem xP0 (m : MsgL) : VC Tryz.prog 318 [.agg (encM m)] [] (.sh false ([m.sp].map encS)) [] := by
  refine xCm ?_
  refine vcs vf318 ?_
  repeat first|refine sgo ?_|refine sop ?_
  exact xAC ⟨.inr rfl, oOwn rfl⟩
theorem xSV {m : MsgL} (hm : MsgSz m) : VC Tryz.prog 301 [.agg (encM m)] [] (.sh false ([xAH m.fr].map encS)) [] := by
  have h := xCp m.fr (by have := hm.fr; omega)
  refine xCm ?_
  refine vcs vf301 ?_
  repeat first|refine sgo ?_|refine cv0 h ?_|refine sop ?_
  exact xAC ⟨.inr rfl, oOwn rfl⟩
theorem xQB {m : MsgL} (hm : MsgSz m) : VC Tryz.prog 312 [.agg (encM m)] [] (.sh false ([xAH m.fr].map encS)) [] := by
  have h := xCp m.fr (by have := hm.fr; omega)
  refine xCm ?_
  refine vcs vf312 ?_
  repeat first|refine sgo ?_|refine cv0 h ?_|refine sop ?_
  exact xAC ⟨.inr rfl, oOwn rfl⟩
theorem xPI {m : MsgL} (hm : MsgSz m) : VC Tryz.prog 315 [.agg (encM m)] [] (.sh false ([xAH m.to].map encS)) [] := by
  have h := xCp m.to (by have := hm.to; omega)
  refine xCm ?_
  refine vcs vf315 ?_
  repeat first|refine sgo ?_|refine cv0 h ?_|refine sop ?_
  exact xAC ⟨.inr rfl, oOwn rfl⟩
theorem xR5 {m : MsgL} (hm : MsgSz m) : VC Tryz.prog 304 [.agg (encM m)] [] (.sh false ([xAH m.fr, xAH m.to].map encS)) [] := by
  have h := xCp m.fr (by have := hm.fr; omega)
  have h' := xCp m.to (by have := hm.to; omega)
  refine xCm ?_
  refine vcs vf304 ?_
  repeat first|refine sgo ?_|refine cv0 h ?_|refine cv0 h' ?_|refine sop ?_
  exact xAC ⟨.inr rfl, oOwn rfl⟩
theorem xU8 (m : MsgL) : VC Tryz.prog 264 [.agg (encM m)] [] (.sh false (([] : List SpanL).map encS)) [] := by
  refine xNA ?_
  refine vcs vf264 ?_
  repeat first|refine sgo ?_|refine sop ?_
  exact xAC ⟨.inr rfl, oAny rfl⟩
theorem xVD (m : MsgL) : VC Tryz.prog 283 [.agg (encM m)] [] (.sh false (([] : List SpanL).map encS)) [] := by
  refine xNA ?_
  refine vcs vf283 ?_
  repeat first|refine sgo ?_|refine sop ?_
  exact xAC ⟨.inr rfl, oAny rfl⟩
theorem xSd (m : MsgL) : VC Tryz.prog 294 [.agg (encM m)] [] (.sh false (([] : List SpanL).map encS)) [] := by
  refine xNA ?_
  refine vcs vf294 ?_
  repeat first|refine sgo ?_|refine sop ?_
  exact xAC ⟨.inr rfl, oAny rfl⟩
theorem six {k : Int} (h : 1 ≤ k ∧ k ≤ 6) : k = 1 ∨ k = 2 ∨ k = 3 ∨ k = 4 ∨ k = 5 ∨ k = 6 := by omega
theorem xVO {m : MsgL} (hm : 1 ≤ m.kind ∧ m.kind ≤ 6) : VC Tryz.prog 68 [.agg (encM m)] [] (.ifc (158 + m.kind.toNat) (encM m)) [] := by
  obtain ⟨k, m2, m3, m4, m5, m6, m7⟩ := m
  simp only at hm
  rcases six hm with rfl | rfl | rfl | rfl | rfl | rfl
  · refine vcs vf68 ?_
    repeat first|refine sgo ?_|refine sop ?_
    refine cndt ?_
    repeat first|refine sgo ?_|refine o_v0 vifc ?_|refine sop ?_
    exact xAC ⟨.inr rfl, oAny rfl⟩
  · refine vcs vf68 ?_
    repeat first|refine sgo ?_|refine sop ?_
    refine cndf ?_
    repeat first|refine sgo ?_|refine sop ?_
    refine cndt ?_
    repeat first|refine sgo ?_|refine o_v0 vifc ?_|refine sop ?_
    exact xAC ⟨.inr rfl, oAny rfl⟩
  · refine vcs vf68 ?_
    repeat first|refine sgo ?_|refine sop ?_
    refine cndf ?_
    repeat first|refine sgo ?_|refine sop ?_
    refine cndf ?_
    repeat first|refine sgo ?_|refine sop ?_
    refine cndt ?_
    repeat first|refine sgo ?_|refine o_v0 vifc ?_|refine sop ?_
    exact xAC ⟨.inr rfl, oAny rfl⟩
  · refine vcs vf68 ?_
    repeat first|refine sgo ?_|refine sop ?_
    refine cndf ?_
    repeat first|refine sgo ?_|refine sop ?_
    refine cndf ?_
    repeat first|refine sgo ?_|refine sop ?_
    refine cndf ?_
    repeat first|refine sgo ?_|refine sop ?_
    refine cndt ?_
    repeat first|refine sgo ?_|refine o_v0 vifc ?_|refine sop ?_
    exact xAC ⟨.inr rfl, oAny rfl⟩
  · refine vcs vf68 ?_
    repeat first|refine sgo ?_|refine sop ?_
    refine cndf ?_
    repeat first|refine sgo ?_|refine sop ?_
    refine cndf ?_
    repeat first|refine sgo ?_|refine sop ?_
    refine cndf ?_
    repeat first|refine sgo ?_|refine sop ?_
    refine cndf ?_
    repeat first|refine sgo ?_|refine sop ?_
    refine cndt ?_
    repeat first|refine sgo ?_|refine o_v0 vifc ?_|refine sop ?_
    exact xAC ⟨.inr rfl, oAny rfl⟩
  · refine vcs vf68 ?_
    repeat first|refine sgo ?_|refine sop ?_
    refine cndf ?_
    repeat first|refine sgo ?_|refine sop ?_
    refine cndf ?_
    repeat first|refine sgo ?_|refine sop ?_
    refine cndf ?_
    repeat first|refine sgo ?_|refine sop ?_
    refine cndf ?_
    repeat first|refine sgo ?_|refine sop ?_
    refine cndf ?_
    repeat first|refine sgo ?_|refine sop ?_
    refine cndt ?_
    repeat first|refine sgo ?_|refine o_v0 vifc ?_|refine sop ?_
    exact xAC ⟨.inr rfl, oAny rfl⟩
theorem xKv {m : MsgL} (hm : MsgSz m) : VC Tryz.prog 139 [.agg (encM m)] [] (.sh false ((xAM m).map encS)) [] := by
  have ho := xVO hm.k
  have a1 := ((xUX hm) : VC Tryz.prog _ [.agg (encM m)] [] _ [])
  have a2 := ((xUY hm) : VC Tryz.prog _ [.agg (encM m)] [] _ [])
  have a3 := ((xR6 _) : VC Tryz.prog _ [.agg (encM m)] [] _ [])
  have a4 := ((xR5 hm) : VC Tryz.prog _ [.agg (encM m)] [] _ [])
  have a5 := ((xPI hm) : VC Tryz.prog _ [.agg (encM m)] [] _ [])
  have a6 := ((xPH _) : VC Tryz.prog _ [.agg (encM m)] [] _ [])
  have hk := hm.k
  obtain ⟨k, m2, m3, m4, m5, m6, m7⟩ := m
  simp only at hk
  rcases six hk with rfl | rfl | rfl | rfl | rfl | rfl
  · refine vcs vf139 ?_
    repeat first|refine sgo ?_|refine cf ho ?_|refine o_v0 visn ?_|refine sop ?_
    refine cndt ?_
    repeat first|refine sgo ?_|refine cf a1 ?_|refine sop ?_
    exact xAC ⟨.inr rfl, oAny rfl⟩
  · refine vcs vf139 ?_
    repeat first|refine sgo ?_|refine cf ho ?_|refine o_v0 visn ?_|refine sop ?_
    refine cndt ?_
    repeat first|refine sgo ?_|refine cf a2 ?_|refine sop ?_
    exact xAC ⟨.inr rfl, oAny rfl⟩
  · refine vcs vf139 ?_
    repeat first|refine sgo ?_|refine cf ho ?_|refine o_v0 visn ?_|refine sop ?_
    refine cndt ?_
    repeat first|refine sgo ?_|refine cf a3 ?_|refine sop ?_
    exact xAC ⟨.inr rfl, oAny rfl⟩
  · refine vcs vf139 ?_
    repeat first|refine sgo ?_|refine cf ho ?_|refine o_v0 visn ?_|refine sop ?_
    refine cndt ?_
    repeat first|refine sgo ?_|refine cf a4 ?_|refine sop ?_
    exact xAC ⟨.inr rfl, oAny rfl⟩
  · refine vcs vf139 ?_
    repeat first|refine sgo ?_|refine cf ho ?_|refine o_v0 visn ?_|refine sop ?_
    refine cndt ?_
    repeat first|refine sgo ?_|refine cf a5 ?_|refine sop ?_
    exact xAC ⟨.inr rfl, oAny rfl⟩
  · refine vcs vf139 ?_
    repeat first|refine sgo ?_|refine cf ho ?_|refine o_v0 visn ?_|refine sop ?_
    refine cndt ?_
    repeat first|refine sgo ?_|refine cf a6 ?_|refine sop ?_
    exact xAC ⟨.inr rfl, oAny rfl⟩
theorem xSc {m : MsgL} (hm : MsgSz m) : VC Tryz.prog 142 [.agg (encM m)] [] (.sh false ((xBj m).map encS)) [] := by
  have ho := xVO hm.k
  have a1 := ((xU8 _) : VC Tryz.prog _ [.agg (encM m)] [] _ [])
  have a2 := ((xVD _) : VC Tryz.prog _ [.agg (encM m)] [] _ [])
  have a3 := ((xSd _) : VC Tryz.prog _ [.agg (encM m)] [] _ [])
  have a4 := ((xSV hm) : VC Tryz.prog _ [.agg (encM m)] [] _ [])
  have a5 := ((xQB hm) : VC Tryz.prog _ [.agg (encM m)] [] _ [])
  have a6 := ((xP0 _) : VC Tryz.prog _ [.agg (encM m)] [] _ [])
  have hk := hm.k
  obtain ⟨k, m2, m3, m4, m5, m6, m7⟩ := m
  simp only at hk
  rcases six hk with rfl | rfl | rfl | rfl | rfl | rfl
  · refine vcs vf142 ?_
    repeat first|refine sgo ?_|refine cf ho ?_|refine o_v0 visn ?_|refine sop ?_
    refine cndt ?_
    repeat first|refine sgo ?_|refine cf a1 ?_|refine sop ?_
    exact xAC ⟨.inr rfl, oAny rfl⟩
  · refine vcs vf142 ?_
    repeat first|refine sgo ?_|refine cf ho ?_|refine o_v0 visn ?_|refine sop ?_
    refine cndt ?_
    repeat first|refine sgo ?_|refine cf a2 ?_|refine sop ?_
    exact xAC ⟨.inr rfl, oAny rfl⟩
  · refine vcs vf142 ?_
    repeat first|refine sgo ?_|refine cf ho ?_|refine o_v0 visn ?_|refine sop ?_
    refine cndt ?_
    repeat first|refine sgo ?_|refine cf a3 ?_|refine sop ?_
    exact xAC ⟨.inr rfl, oAny rfl⟩
  · refine vcs vf142 ?_
    repeat first|refine sgo ?_|refine cf ho ?_|refine o_v0 visn ?_|refine sop ?_
    refine cndt ?_
    repeat first|refine sgo ?_|refine cf a4 ?_|refine sop ?_
    exact xAC ⟨.inr rfl, oAny rfl⟩
  · refine vcs vf142 ?_
    repeat first|refine sgo ?_|refine cf ho ?_|refine o_v0 visn ?_|refine sop ?_
    refine cndt ?_
    repeat first|refine sgo ?_|refine cf a5 ?_|refine sop ?_
    exact xAC ⟨.inr rfl, oAny rfl⟩
  · refine vcs vf142 ?_
    repeat first|refine sgo ?_|refine cf ho ?_|refine o_v0 visn ?_|refine sop ?_
    refine cndt ?_
    repeat first|refine sgo ?_|refine cf a6 ?_|refine sop ?_
    exact xAC ⟨.inr rfl, oAny rfl⟩
theorem xTM {m : MsgL} (hm : MsgSz m) : VC Tryz.prog 141 [.agg (encM m)] [] (.sh false ((xBH m).map encS)) [] := by
  by_cases h6 : m.kind = 6
  · have g : (m.kind == 6) = true := by rw [h6]; rfl
    have e : xBH m = [] := by unfold xBH; rw [if_pos h6]
    rw [e]
    refine xNA ?_
    refine vcs vf141 ?_
    repeat first|refine sgo ?_|refine sop ?_
    refine cndt ?_
    repeat first|refine sgo ?_|refine sop ?_
    exact xAC ⟨.inr rfl, oAny rfl⟩
  · have g : (m.kind == 6) = false := by simpa using h6
    have e : xBH m = xAM m := by unfold xBH; rw [if_neg h6]
    rw [e]
    have hw := xKv hm
    refine vcs vf141 ?_
    repeat first|refine sgo ?_|refine sop ?_
    refine cndf (xAB ?_)
    repeat first|refine sgo ?_|refine cf hw ?_|refine sop ?_
    exact xAC ⟨.inr rfl, oAny rfl⟩
end Go.Proofs
open Go.V Go.Pu
set_option linter.unusedVariables false
set_option linter.unusedSimpArgs false
set_option maxRecDepth 20000
namespace Go.Proofs
end Go.Proofs
