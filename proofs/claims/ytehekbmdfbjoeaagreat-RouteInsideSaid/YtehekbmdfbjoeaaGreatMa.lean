/- Ma -/
import Derived.Test.YtehekbmdfbjoeaaGreatSa
import Derived.Test.YtehekbmdfbjoeaaGreatPu
open Go.V Go.Pu
set_option linter.unusedVariables false
set_option linter.unusedSimpArgs false
set_option maxRecDepth 20000
namespace Go.Proofs
def vc44 := vcm Tryz.prog 44
theorem vf44 : VF Tryz.prog 44 = some (8, vc44, [.tmp 2]) := by kernel_rfl
def vc45 := vcm Tryz.prog 45
theorem vf45 : VF Tryz.prog 45 = some (13, vc45, [.tmp 2]) := by kernel_rfl
def vc63 := vcm Tryz.prog 63
theorem vf63 : VF Tryz.prog 63 = some (8, vc63, [.tmp 2]) := by kernel_rfl
abbrev encM (m : MsgL) : List PV := [.int .i64 m.kind, .str m.key, .str m.val, .str m.sp.lo, .str m.sp.hi, .str m.fr, .str m.to, .int .i64 m.n]
abbrev encW (x : RawM) : List PV := [.int .u8 x.a, .int .u8 x.b, .int .u8 x.c, .int .u8 x.d, .int .u8 x.e, .int .u8 x.f]
theorem tm (n m : Nat) : Int.tmod (n : Int) (m : Int) = ((n % m : Nat) : Int) := by
  rw [Int.tmod_eq_emod_of_nonneg (by omega)]; rfl
theorem xJo (n : Nat) : VC Tryz.prog 44 [.int .u8 n] [] (.str (xA5 n)) [] := by
  have h1 : Int.tmod (n : Int) 5 = ((n % 5 : Nat) : Int) := tm n 5
  have hlt : n % 5 < 5 := Nat.mod_lt _ (by omega)
  have hx : (paths5.map fun s => [PV.str s])[((n % 5 : Nat) : Int).toNat]? = some [.str (xA5 n)] := by
    unfold xA5 paths5
    rw [Int.toNat_natCast]
    generalize n % 5 = m at hlt
    match m, hlt with
    | 0, _ => rfl
    | 1, _ => rfl
    | 2, _ => rfl
    | 3, _ => rfl
    | 4, _ => rfl
  refine vcs vf44 ?_
  repeat first|refine sgo ?_|refine xCW ?_|refine sop ?_
  exact xAC ⟨.inr rfl, oS rfl⟩
theorem xS0 (n : Nat) : VC Tryz.prog 63 [.int .u8 n] [] (.str (valM n)) [] := by
  have h1 : Int.tmod (n : Int) 5 = ((n % 5 : Nat) : Int) := tm n 5
  have hlt : n % 5 < 5 := Nat.mod_lt _ (by omega)
  have hx : (vals5.map fun s => [PV.str s])[((n % 5 : Nat) : Int).toNat]? = some [.str (valM n)] := by
    unfold valM vals5
    rw [Int.toNat_natCast]
    generalize n % 5 = m at hlt
    match m, hlt with
    | 0, _ => rfl
    | 1, _ => rfl
    | 2, _ => rfl
    | 3, _ => rfl
    | 4, _ => rfl
  refine vcs vf63 ?_
  repeat first|refine sgo ?_|refine xCW ?_|refine sop ?_
  exact xAC ⟨.inr rfl, oS rfl⟩
theorem quoN {k : IntKind} {n m : Nat} {z : Int} (hz : z = n) (hm : 0 < m) (hw : k.wrap ((n / m : Nat) : Int) = ((n / m : Nat) : Int)) : bin .quo (.int k z) (.int k (m : Nat)) = some (.int k ((n / m : Nat) : Int)) := by
  subst hz
  have h1 : ((m : Nat) : Int) ≠ 0 := by omega
  have h2 : (n : Int).tdiv (m : Int) = ((n / m : Nat) : Int) := rfl
  simp only [bin, if_true, xEm, if_neg h1, h2, hw]
theorem wrap8 {n : Nat} (h : n < 256) : IntKind.u8.wrap (n : Int) = (n : Int) := by
  simp [IntKind.wrap, IntKind.bits, IntKind.signed]
  omega
theorem xJ5 {n : Nat} (hn : n < 256) : VC Tryz.prog 45 [.int .u8 n] [] (.str (keyM n)) [] := by
  have h1 : Int.tmod (n : Int) 4 = ((n % 4 : Nat) : Int) := tm n 4
  have hp := xJo (n % 4)
  have hq : bin .quo (.int .u8 (n : Int)) (.int .u8 4) = some (.int .u8 ((n / 4 : Nat) : Int)) := quoN (k := .u8) (n := n) (m := 4) rfl (by omega) (wrap8 (by omega))
  have h2 : Int.tmod ((n / 4 : Nat) : Int) 5 = ((n / 4 % 5 : Nat) : Int) := tm (n / 4) 5
  have hlt : n / 4 % 5 < 5 := Nat.mod_lt _ (by omega)
  have hx : (ends5.map fun s => [PV.str s])[((n / 4 % 5 : Nat) : Int).toNat]? = some [.str (endM (n / 4))] := by
    unfold endM ends5
    rw [Int.toNat_natCast]
    generalize n / 4 % 5 = m at hlt
    match m, hlt with
    | 0, _ => rfl
    | 1, _ => rfl
    | 2, _ => rfl
    | 3, _ => rfl
    | 4, _ => rfl
  have hl1 := (xB3 (xB2 (n % 4))).1
  have hl2 : ∀ p ∈ ends5, p.length ≤ 3 := by decide
  have hl3 := hl2 _ (xQf (n / 4))
  refine vcs vf45 ?_
  repeat first|refine sgo ?_|refine xCW ?_|refine cv0 hp ?_|refine xBe hq ?_|refine sop ?_
  exact xAC ⟨.inr rfl, oS rfl⟩
end Go.Proofs
open Go.V Go.Pu
set_option linter.unusedVariables false
set_option linter.unusedSimpArgs false
set_option maxRecDepth 20000
namespace Go.Proofs
def vc28 := vcm Tryz.prog 28
theorem vf28 : VF Tryz.prog 28 = some (102, vc28, [.cell true 8 2]) := by kernel_rfl
def vc12 := vcm Tryz.prog 12
theorem vf12 : VF Tryz.prog 12 = some (28, vc12, [.tmp 4]) := by kernel_rfl
theorem min_eq (a b : Str) : (if (Op.bytesLess a b || a == b) = true then a else b) = minS a b := by
  unfold minS
  rcases xBv a b with h | h | h
  · have := xB1 h; simp [h, this]
  · subst h; simp [xAq]
  · have h1 := xB1 h
    have h2 := xDS h
    simp [h, h1, h2.symm]
set_option maxHeartbeats 4000000 in
theorem xP7 {x : RawM} (hx : x.ok) : VC Tryz.prog 28 [.agg (encW x)] [] (.agg (encM (xAl x))) [] := by
  obtain ⟨x1, x2, x3, x4, x5, x6⟩ := hx
  have k1 := xJ5 x2
  have k2 := xJ5 x4
  have p1 := xJo x.b
  have p2 := xJo x.d
  have hl1 := (xB3 (xB2 x.b)).1
  have hl2 := (xB3 (xB2 x.d)).1
  have hk1 := xGD x.b
  have v1 := xS0 x.c
  have e1 : Int.tmod (x.e : Int) 4 = ((x.e % 4 : Nat) : Int) := tm x.e 4
  have e2 : Int.tmod (x.e : Int) 16 = ((x.e % 16 : Nat) : Int) := tm x.e 16
  have e3 : Int.tmod (x.f : Int) 8 = ((x.f % 8 : Nat) : Int) := tm x.f 8
  have e4 : Int.tmod (x.a : Int) 6 = ((x.a % 6 : Nat) : Int) := tm x.a 6
  have w3 : IntKind.i64.wrap ((x.f % 8 : Nat) : Int) = ((x.f % 8 : Nat) : Int) := xCH (by omega) (by omega)
  have pr := xCv (xA5 x.b) (by omega)
  have on := xLy (keyM x.b) (by omega)
  have b1 := xId (xA5 x.b) (xA5 x.d) (by omega) (by omega)
  have b2 := xId (xA5 x.d) (xA5 x.b) (by omega) (by omega)
  refine vcs vf28 ?_
  refine xBs (rg ?_)
  repeat first|refine xAi ?_|refine sop ?_
  refine nl ?_
  refine xBs (rg ?_)
  repeat first|refine xAi ?_|refine cv0 k1 ?_|refine cv0 k2 ?_|refine sop ?_
  refine nl ?_
  refine xBs (rg ?_)
  repeat first|refine xAi ?_|refine sop ?_
  refine nl ?_
  refine xCi (lvl := 1) (fun (_ : Unit) => [(1, .ptr ⟨1, 0⟩ 1 0 0), (2, .ptr ⟨1, 8⟩ 1 0 0), (3, .str (keyM x.b)), (4, .str (keyM x.d)), (5, .ptr ⟨1, 16440⟩ 1 0 0)])
    (fun _ => [(⟨1, 0⟩, ⟨true, false, 6, [encW x]⟩), (⟨1, 8⟩, ⟨true, false, 8, [[.int .i64 0, .str [], .str [], .str [], .str [], .str [], .str [], .int .i64 0]]⟩), (⟨1, 16440⟩, ⟨true, false, 2, [encS (spM x)]⟩)]) (fun _ => True) ?_ ?_
  · by_cases h1 : x.e % 4 = 0
    · have g1 : (((x.e % 4 : Nat) : Int) == 0) = true := by rw [h1]; rfl
      have e : spM x = xAH (xA5 x.b) := by unfold spM; rw [if_pos h1]
      rw [e]
      repeat first|refine sgo ?_|refine xCW ?_|refine sop ?_
      refine cndt ?_
      repeat first|refine sgo ?_|refine cv0 p1 ?_|refine cv0 pr ?_|refine sop ?_
      exact ⟨(), trivial, xAS⟩
    have g1 : (((x.e % 4 : Nat) : Int) == 0) = false := by simp; omega
    by_cases h2 : x.e % 16 = 1
    · have g2 : (((x.e % 16 : Nat) : Int) == 1) = true := by rw [h2]; rfl
      have e : spM x = ⟨keyM x.b, []⟩ := by unfold spM; rw [if_neg h1, if_pos h2]
      rw [e]
      repeat first|refine sgo ?_|refine xCW ?_|refine sop ?_
      refine cndf ?_
      repeat first|refine sgo ?_|refine xCW ?_|refine sop ?_
      refine cndt ?_
      repeat first|refine sgo ?_|refine sop ?_
      exact ⟨(), trivial, xAS⟩
    have g2 : (((x.e % 16 : Nat) : Int) == 1) = false := by simp; omega
    by_cases h3 : x.e % 16 = 5
    · have g3 : (((x.e % 16 : Nat) : Int) == 5) = true := by rw [h3]; rfl
      have e : spM x = ⟨[], []⟩ := by unfold spM; rw [if_neg h1, if_neg h2, if_pos h3]
      rw [e]
      repeat first|refine sgo ?_|refine xCW ?_|refine sop ?_
      refine cndf ?_
      repeat first|refine sgo ?_|refine xCW ?_|refine sop ?_
      refine cndf ?_
      repeat first|refine sgo ?_|refine xCW ?_|refine sop ?_
      refine cndt ?_
      repeat first|refine sgo ?_|refine sop ?_
      exact ⟨(), trivial, xAS⟩
    have g3 : (((x.e % 16 : Nat) : Int) == 5) = false := by simp; omega
    by_cases h4 : keyM x.b = keyM x.d
    · have g4 : (keyM x.b == keyM x.d) = true := by rw [h4]; simp
      have e : spM x = oneL (keyM x.b) := by unfold spM; rw [if_neg h1, if_neg h2, if_neg h3, if_pos h4]
      rw [e]
      repeat first|refine sgo ?_|refine xCW ?_|refine sop ?_
      refine cndf ?_
      repeat first|refine sgo ?_|refine xCW ?_|refine sop ?_
      refine cndf ?_
      repeat first|refine sgo ?_|refine xCW ?_|refine sop ?_
      refine cndf ?_
      repeat first|refine sgo ?_|refine sop ?_
      refine cndt ?_
      repeat first|refine sgo ?_|refine cv0 on ?_|refine sop ?_
      exact ⟨(), trivial, xAS⟩
    · have g4 : (keyM x.b == keyM x.d) = false := by simpa using h4
      have e : spM x = ⟨minS (keyM x.b) (keyM x.d), maxL (keyM x.b) (keyM x.d)⟩ := by unfold spM; rw [if_neg h1, if_neg h2, if_neg h3, if_neg h4]
      rw [e, ← min_eq]
      repeat first|refine sgo ?_|refine xCW ?_|refine sop ?_
      refine cndf ?_
      repeat first|refine sgo ?_|refine xCW ?_|refine sop ?_
      refine cndf ?_
      repeat first|refine sgo ?_|refine xCW ?_|refine sop ?_
      refine cndf ?_
      repeat first|refine sgo ?_|refine sop ?_
      refine cndf (xAA ?_)
      exact ⟨(), trivial, xAS⟩
  intro _ _
  generalize hsp : spM x = sp
  refine xBs (rg ?_)
  repeat first|refine xAi ?_|refine cv0 p1 ?_|refine cv0 p2 ?_|refine sop ?_
  refine nl ?_
  refine xCi (lvl := 1) (fun (_ : Unit) => [(1, .ptr ⟨1, 0⟩ 1 0 0), (2, .ptr ⟨1, 8⟩ 1 0 0), (3, .str (keyM x.b)), (5, .ptr ⟨1, 16440⟩ 1 0 0), (6, .str (xA5 x.b)), (7, .str (toM x))])
    (fun _ => [(⟨1, 0⟩, ⟨true, false, 6, [encW x]⟩), (⟨1, 8⟩, ⟨true, false, 8, [[.int .i64 0, .str [], .str [], .str [], .str [], .str [], .str [], .int .i64 0]]⟩), (⟨1, 16440⟩, ⟨true, false, 2, [encS sp]⟩)]) (fun _ => True) ?_ ?_
  · by_cases hA : xAF (xA5 x.b) (xA5 x.d) = true ∨ xAF (xA5 x.d) (xA5 x.b) = true
    · by_cases hB : xA5 x.b = [100, 47]
      · have g4 : (xA5 x.b == [100, 47]) = true := by rw [hB]; rfl
        have e : toM x = [99, 47] := by unfold toM; rw [if_pos hA, if_pos hB]
        rw [e]
        cases hb1 : xAF (xA5 x.b) (xA5 x.d) with
        | true =>
          rw [hb1] at b1
          repeat first|refine sgo ?_|refine cv0 b1 ?_|refine sop ?_
          refine cndt ?_
          repeat first|refine sgo ?_|refine sop ?_
          refine cndt ?_
          repeat first|refine sgo ?_|refine sop ?_
          exact ⟨(), trivial, xAS⟩
        | false =>
          rw [hb1] at b1
          rw [hA.resolve_left (by rw [hb1]; simp)] at b2
          repeat first|refine sgo ?_|refine cv0 b1 ?_|refine cv0 b2 ?_|refine sop ?_
          refine cndt ?_
          repeat first|refine sgo ?_|refine sop ?_
          refine cndt ?_
          repeat first|refine sgo ?_|refine sop ?_
          exact ⟨(), trivial, xAS⟩
      · have g4 : (xA5 x.b == [100, 47]) = false := by simpa using hB
        have e : toM x = [100, 47] := by unfold toM; rw [if_pos hA, if_neg hB]
        rw [e]
        cases hb1 : xAF (xA5 x.b) (xA5 x.d) with
        | true =>
          rw [hb1] at b1
          repeat first|refine sgo ?_|refine cv0 b1 ?_|refine sop ?_
          refine cndt ?_
          repeat first|refine sgo ?_|refine sop ?_
          refine cndf (xAA ?_)
          exact ⟨(), trivial, xAS⟩
        | false =>
          rw [hb1] at b1
          rw [hA.resolve_left (by rw [hb1]; simp)] at b2
          repeat first|refine sgo ?_|refine cv0 b1 ?_|refine cv0 b2 ?_|refine sop ?_
          refine cndt ?_
          repeat first|refine sgo ?_|refine sop ?_
          refine cndf (xAA ?_)
          exact ⟨(), trivial, xAS⟩
    · have e : toM x = xA5 x.d := by unfold toM; rw [if_neg hA]
      rw [e]
      have hb1 : xAF (xA5 x.b) (xA5 x.d) = false := by cases h : xAF (xA5 x.b) (xA5 x.d) with | false => rfl | true => exact (hA (.inl h)).elim
      have hb2 : xAF (xA5 x.d) (xA5 x.b) = false := by cases h : xAF (xA5 x.d) (xA5 x.b) with | false => rfl | true => exact (hA (.inr h)).elim
      rw [hb1] at b1
      rw [hb2] at b2
      repeat first|refine sgo ?_|refine cv0 b1 ?_|refine cv0 b2 ?_|refine sop ?_
      refine cndf (xAA ?_)
      exact ⟨(), trivial, xAS⟩
  intro _ _
  have h6 : x.a % 6 < 6 := Nat.mod_lt _ (by omega)
  by_cases c0 : x.a % 6 = 0
  · have g0 : (((x.a % 6 : Nat) : Int) == 0) = true := by rw [c0]; rfl
    have e : xAl x = ⟨1, keyM x.b, valM x.c, ⟨[], []⟩, [], [], (x.f % 8 : Nat)⟩ := by unfold xAl; rw [if_pos c0]
    rw [e]
    repeat first|refine sgo ?_|refine xCW ?_|refine xB6 ?_|refine sop ?_
    refine cndt ?_
    repeat first|refine sgo ?_|refine cv0 v1 ?_|refine sop ?_
    exact xAC ⟨.inr rfl, oAny rfl⟩
  have g0 : (((x.a % 6 : Nat) : Int) == 0) = false := by simp; omega
  by_cases c1 : x.a % 6 = 1
  · have g1 : (((x.a % 6 : Nat) : Int) == 1) = true := by rw [c1]; rfl
    have e : xAl x = ⟨2, keyM x.b, [], ⟨[], []⟩, [], [], 0⟩ := by unfold xAl; rw [if_neg c0, if_pos c1]
    rw [e]
    repeat first|refine sgo ?_|refine xCW ?_|refine xB6 ?_|refine sop ?_
    refine cndf ?_
    repeat first|refine sgo ?_|refine sop ?_
    refine cndt ?_
    repeat first|refine sgo ?_|refine sop ?_
    exact xAC ⟨.inr rfl, oAny rfl⟩
  have g1 : (((x.a % 6 : Nat) : Int) == 1) = false := by simp; omega
  by_cases c2 : x.a % 6 = 2
  · have g2 : (((x.a % 6 : Nat) : Int) == 2) = true := by rw [c2]; rfl
    have e : xAl x = ⟨3, [], [], sp, [], [], 0⟩ := by unfold xAl; rw [if_neg c0, if_neg c1, if_pos c2, hsp]
    rw [e]
    repeat first|refine sgo ?_|refine xCW ?_|refine xB6 ?_|refine sop ?_
    refine cndf ?_
    repeat first|refine sgo ?_|refine sop ?_
    refine cndf ?_
    repeat first|refine sgo ?_|refine sop ?_
    refine cndt ?_
    repeat first|refine sgo ?_|refine sop ?_
    exact xAC ⟨.inr rfl, oAny rfl⟩
  have g2 : (((x.a % 6 : Nat) : Int) == 2) = false := by simp; omega
  by_cases c3 : x.a % 6 = 3
  · have g3 : (((x.a % 6 : Nat) : Int) == 3) = true := by rw [c3]; rfl
    have e : xAl x = ⟨4, [], [], ⟨[], []⟩, xA5 x.b, toM x, 0⟩ := by unfold xAl; rw [if_neg c0, if_neg c1, if_neg c2, if_pos c3]
    rw [e]
    repeat first|refine sgo ?_|refine xCW ?_|refine xB6 ?_|refine sop ?_
    refine cndf ?_
    repeat first|refine sgo ?_|refine sop ?_
    refine cndf ?_
    repeat first|refine sgo ?_|refine sop ?_
    refine cndf ?_
    repeat first|refine sgo ?_|refine sop ?_
    refine cndt ?_
    repeat first|refine sgo ?_|refine sop ?_
    exact xAC ⟨.inr rfl, oAny rfl⟩
  have g3 : (((x.a % 6 : Nat) : Int) == 3) = false := by simp; omega
  by_cases c4 : x.a % 6 = 4
  · have g4 : (((x.a % 6 : Nat) : Int) == 4) = true := by rw [c4]; rfl
    have e : xAl x = ⟨5, [], [], ⟨[], []⟩, xA5 x.b, toM x, 0⟩ := by unfold xAl; rw [if_neg c0, if_neg c1, if_neg c2, if_neg c3, if_pos c4]
    rw [e]
    repeat first|refine sgo ?_|refine xCW ?_|refine xB6 ?_|refine sop ?_
    refine cndf ?_
    repeat first|refine sgo ?_|refine sop ?_
    refine cndf ?_
    repeat first|refine sgo ?_|refine sop ?_
    refine cndf ?_
    repeat first|refine sgo ?_|refine sop ?_
    refine cndf ?_
    repeat first|refine sgo ?_|refine sop ?_
    refine cndt ?_
    repeat first|refine sgo ?_|refine sop ?_
    exact xAC ⟨.inr rfl, oAny rfl⟩
  have g4 : (((x.a % 6 : Nat) : Int) == 4) = false := by simp; omega
  have e : xAl x = ⟨6, [], [], sp, [], [], (x.f % 8 : Nat)⟩ := by unfold xAl; rw [if_neg c0, if_neg c1, if_neg c2, if_neg c3, if_neg c4, hsp]
  rw [e]
  repeat first|refine sgo ?_|refine xCW ?_|refine xB6 ?_|refine sop ?_
  refine cndf ?_
  repeat first|refine sgo ?_|refine sop ?_
  refine cndf ?_
  repeat first|refine sgo ?_|refine sop ?_
  refine cndf ?_
  repeat first|refine sgo ?_|refine sop ?_
  refine cndf ?_
  repeat first|refine sgo ?_|refine sop ?_
  refine cndf (xAA ?_)
  repeat first|refine sgo ?_|refine sop ?_
  exact xAC ⟨.inr rfl, oAny rfl⟩
end Go.Proofs
open Go.V Go.Pu
set_option linter.unusedVariables false
set_option linter.unusedSimpArgs false
set_option maxRecDepth 20000
namespace Go.Proofs
def vc69 := vcm Tryz.prog 69
theorem vf69 : VF Tryz.prog 69 = some (29, vc69, [.tmp 2]) := by kernel_rfl
def vc142 := vcm Tryz.prog 142
theorem vf142 : VF Tryz.prog 142 = some (3, vc142, [.tmp 2]) := by kernel_rfl
def vc145 := vcm Tryz.prog 145
theorem vf145 : VF Tryz.prog 145 = some (7, vc145, [.tmp 2]) := by kernel_rfl
def vc163 := vcm Tryz.prog 163
theorem vf163 : VF Tryz.prog 163 = some (3, vc163, [.tmp 2]) := by kernel_rfl
def vc166 := vcm Tryz.prog 166
theorem vf166 : VF Tryz.prog 166 = some (7, vc166, [.tmp 2]) := by kernel_rfl
def vc174 := vcm Tryz.prog 174
theorem vf174 : VF Tryz.prog 174 = some (3, vc174, [.tmp 2]) := by kernel_rfl
def vc177 := vcm Tryz.prog 177
theorem vf177 : VF Tryz.prog 177 = some (6, vc177, [.tmp 2]) := by kernel_rfl
def vc181 := vcm Tryz.prog 181
theorem vf181 : VF Tryz.prog 181 = some (7, vc181, [.tmp 2]) := by kernel_rfl
def vc184 := vcm Tryz.prog 184
theorem vf184 : VF Tryz.prog 184 = some (10, vc184, [.tmp 2]) := by kernel_rfl
def vc197 := vcm Tryz.prog 197
theorem vf197 : VF Tryz.prog 197 = some (7, vc197, [.tmp 2]) := by kernel_rfl
def vc200 := vcm Tryz.prog 200
theorem vf200 : VF Tryz.prog 200 = some (7, vc200, [.tmp 2]) := by kernel_rfl
def vc203 := vcm Tryz.prog 203
theorem vf203 : VF Tryz.prog 203 = some (6, vc203, [.tmp 2]) := by kernel_rfl
def vc206 := vcm Tryz.prog 206
theorem vf206 : VF Tryz.prog 206 = some (6, vc206, [.tmp 2]) := by kernel_rfl
def vc58 := vcm Tryz.prog 58
theorem vf58 : VF Tryz.prog 58 = some (10, vc58, [.tmp 2]) := by kernel_rfl
def vc74 := vcm Tryz.prog 74
theorem vf74 : VF Tryz.prog 74 = some (10, vc74, [.tmp 2]) := by kernel_rfl
theorem xIh : ∀ {l : List PV}, All2 PLe l l
  | [] => .nil
  | _ :: _ => .cons (PLe.refl _) xIh
theorem okW (l : List RawM) : okEls 6 (l.map encW) := okEls.map fun a => by simp [closed]
theorem okM (l : List MsgL) : okEls 8 (l.map encM) := okEls.map fun a => by simp [closed]
theorem xUh {l : List RawM} (hl : l.length ≤ 9223372036854775807) (hr : ∀ r ∈ l, r.ok) (n : Nat) (hn : n ≤ 1000) : VC Tryz.prog 12 [.sh false (l.map encW), .int .i64 n] [] (ownV ⟨0, 0⟩ ((xD5 l n).map encM)) [blkV 8 ((xD5 l n).map encM)] := by
  have hrl : (l.map encW).length = l.length := List.length_map _
  refine vcs vf12 ?_
  repeat first|refine sgo ?_|refine sop ?_
  refine xAE (fun (i : Nat) => [(0, .sh false (l.map encW)), (1, .int .i64 n), (5, ownV ⟨1, 8192⟩ (((l.take i).map xAl).map encM)), (6, .int .i64 i)]) (fun i => [(⟨1, 8192⟩, blkV 8 (((l.take i).map xAl).map encM))]) (fun i => l.length - i)
    (fun i => i ≤ l.length ∧ i ≤ n) 0 xAS ⟨Nat.zero_le _, Nat.zero_le _⟩ ?_
  rintro i ⟨hi, hin⟩
  by_cases hA : i < l.length
  · have g1 : decide ((i : Int) < (l.map encW).length) = true := by rw [hrl]; simp; omega
    obtain ⟨r, hx⟩ : ∃ y, l[i]? = some y := ⟨_, List.getElem?_eq_getElem hA⟩
    have hxe := gm (enc := encW) (n := (i : Int)) hx (by omega)
    have hlt2 : (i : Int) < ((l.map encW).length : Nat) := by rw [hrl]; omega
    have hm := xP7 (hr r (List.mem_of_getElem? hx))
    have htk : (l.take (i + 1)).map xAl = (l.take i).map xAl ++ [xAl r] := by rw [List.take_add_one, hx]; simp
    by_cases hB : i < n
    · have g2 : decide ((i : Int) < (n : Int)) = true := by simp; omega
      have hlen : ((l.take i).map xAl).length ≤ 1000 := by rw [List.length_map, List.length_take]; omega
      repeat first|refine sgo ?_|refine sop ?_
      refine cndt (xAA ?_)
      repeat first|refine sgo ?_|refine cv0 hm ?_|refine o_v (vap encM (xAl r)) ?_|refine sop ?_
      refine agn (Q := fun _ _ => True) (i + 1) ⟨by omega, by omega⟩ ?_
      rw [htk]
      exact xAS
    · have g2 : decide ((i : Int) < (n : Int)) = false := by simp; omega
      have he : xD5 l n = (l.take i).map xAl := by rw [xD5, show i = n by omega]
      rw [he]
      repeat first|refine sgo ?_|refine sop ?_
      refine cndf (xAD ?_)
      repeat first|refine sgo ?_|refine sop ?_
      exact xAC ⟨.inr rfl, oOwn rfl⟩
  · have g1 : decide ((i : Int) < (l.map encW).length) = false := by rw [hrl]; simp; omega
    have he : xD5 l n = (l.take i).map xAl := by rw [xD5, List.take_of_length_le (by omega), List.take_of_length_le (by omega)]
    rw [he]
    repeat first|refine sgo ?_|refine sop ?_
    refine cndf (xAD ?_)
    repeat first|refine sgo ?_|refine sop ?_
    exact xAC ⟨.inr rfl, oOwn rfl⟩
structure MsgSz (m : MsgL) : Prop where
  k : 1 ≤ m.kind ∧ m.kind ≤ 6
  key : m.key.length ≤ 1000000
  fr : m.fr.length ≤ 1000000
  to : m.to.length ≤ 1000000
theorem MsgSz.of {m : MsgL} (h1 : MsgOk m) (h2 : MsgLen 8 m) : MsgSz m := ⟨h1.k, by have := h2.key; omega, by have := h2.fr; omega, by have := h2.to; omega⟩
theorem l_sp {hf : HF} {b : Bid} {l : List SpanL} (hb : hf b = some (blkV 2 (l.map encS))) : xCg hf [] (ownV b (l.map encS)) = some ([b], .sh false (l.map encS)) := xAa hb rfl
theorem xD9 {f : Nat} {args : List PV} {l : List SpanL} (h : VC Tryz.prog f args [] (ownV ⟨0, 0⟩ (l.map encS)) [blkV 2 (l.map encS)]) : VC Tryz.prog f args [] (.sh false (l.map encS)) [] := xEp h (xAa rfl rfl)
theorem xOl {f : Nat} {args : List PV} (h : VC Tryz.prog f args [] .nils []) : VC Tryz.prog f args [] (.sh false (([] : List SpanL).map encS)) [] := xFu h xIh (PLe.sl (.inl ⟨rfl, rfl⟩))
theorem vifc {t lvl site : Nat} {tf : TF} {hf : HF} {x : VX} {cs : List PV} (hx : ev tf x = some (.agg cs) := by rfl) (hc : cs.all closed = true := by rfl) : vop lvl site tf hf (.mkifc t x) = some ⟨.ifc t cs, [], []⟩ := by
  simp only [vop, hx, Option.bind_some, if_pos hc]; rfl
theorem visn {t lvl site : Nat} {tf : TF} {hf : HF} {x : VX} {cs : List PV} (hx : ev tf x = some (.ifc t cs) := by rfl) : vop lvl site tf hf (.isnili true x) = some ⟨.bool true, [], []⟩ := by
  simp only [vop, hx, Option.bind_some]; rfl
theorem xTb {m : MsgL} (hm : MsgSz m) : VC Tryz.prog 145 [.agg (encM m)] [] (.sh false ([oneL m.key].map encS)) [] := by
  have h := xPl m.key (by have := hm.key; omega)
  refine xD9 ?_
  refine vcs vf145 ?_
  repeat first|refine sgo ?_|refine cv0 h ?_|refine sop ?_
  exact xAC ⟨.inr rfl, oOwn rfl⟩
theorem xTc {m : MsgL} (hm : MsgSz m) : VC Tryz.prog 166 [.agg (encM m)] [] (.sh false ([oneL m.key].map encS)) [] := by
  have h := xPl m.key (by have := hm.key; omega)
  refine xD9 ?_
  refine vcs vf166 ?_
  repeat first|refine sgo ?_|refine cv0 h ?_|refine sop ?_
  exact xAC ⟨.inr rfl, oOwn rfl⟩
theorem xRM (m : MsgL) : VC Tryz.prog 177 [.agg (encM m)] [] (.sh false ([m.sp].map encS)) [] := by
  refine xD9 ?_
  refine vcs vf177 ?_
  repeat first|refine sgo ?_|refine sop ?_
  exact xAC ⟨.inr rfl, oOwn rfl⟩
theorem xOg (m : MsgL) : VC Tryz.prog 206 [.agg (encM m)] [] (.sh false ([m.sp].map encS)) [] := by
  refine xD9 ?_
  refine vcs vf206 ?_
  repeat first|refine sgo ?_|refine sop ?_
  exact xAC ⟨.inr rfl, oOwn rfl⟩
theorem xPN (m : MsgL) : VC Tryz.prog 203 [.agg (encM m)] [] (.sh false ([m.sp].map encS)) [] := by
  refine xD9 ?_
  refine vcs vf203 ?_
  repeat first|refine sgo ?_|refine sop ?_
  exact xAC ⟨.inr rfl, oOwn rfl⟩
theorem xRk {m : MsgL} (hm : MsgSz m) : VC Tryz.prog 181 [.agg (encM m)] [] (.sh false ([xAH m.fr].map encS)) [] := by
  have h := xCe m.fr (by have := hm.fr; omega)
  refine xD9 ?_
  refine vcs vf181 ?_
  repeat first|refine sgo ?_|refine cv0 h ?_|refine sop ?_
  exact xAC ⟨.inr rfl, oOwn rfl⟩
theorem xPU {m : MsgL} (hm : MsgSz m) : VC Tryz.prog 197 [.agg (encM m)] [] (.sh false ([xAH m.fr].map encS)) [] := by
  have h := xCe m.fr (by have := hm.fr; omega)
  refine xD9 ?_
  refine vcs vf197 ?_
  repeat first|refine sgo ?_|refine cv0 h ?_|refine sop ?_
  exact xAC ⟨.inr rfl, oOwn rfl⟩
theorem xOh {m : MsgL} (hm : MsgSz m) : VC Tryz.prog 200 [.agg (encM m)] [] (.sh false ([xAH m.to].map encS)) [] := by
  have h := xCe m.to (by have := hm.to; omega)
  refine xD9 ?_
  refine vcs vf200 ?_
  repeat first|refine sgo ?_|refine cv0 h ?_|refine sop ?_
  exact xAC ⟨.inr rfl, oOwn rfl⟩
theorem xRL {m : MsgL} (hm : MsgSz m) : VC Tryz.prog 184 [.agg (encM m)] [] (.sh false ([xAH m.fr, xAH m.to].map encS)) [] := by
  have h := xCe m.fr (by have := hm.fr; omega)
  have h' := xCe m.to (by have := hm.to; omega)
  refine xD9 ?_
  refine vcs vf184 ?_
  repeat first|refine sgo ?_|refine cv0 h ?_|refine cv0 h' ?_|refine sop ?_
  exact xAC ⟨.inr rfl, oOwn rfl⟩
theorem xUC (m : MsgL) : VC Tryz.prog 142 [.agg (encM m)] [] (.sh false (([] : List SpanL).map encS)) [] := by
  refine xOl ?_
  refine vcs vf142 ?_
  repeat first|refine sgo ?_|refine sop ?_
  exact xAC ⟨.inr rfl, oAny rfl⟩
theorem xUE (m : MsgL) : VC Tryz.prog 163 [.agg (encM m)] [] (.sh false (([] : List SpanL).map encS)) [] := by
  refine xOl ?_
  refine vcs vf163 ?_
  repeat first|refine sgo ?_|refine sop ?_
  exact xAC ⟨.inr rfl, oAny rfl⟩
theorem xRo (m : MsgL) : VC Tryz.prog 174 [.agg (encM m)] [] (.sh false (([] : List SpanL).map encS)) [] := by
  refine xOl ?_
  refine vcs vf174 ?_
  repeat first|refine sgo ?_|refine sop ?_
  exact xAC ⟨.inr rfl, oAny rfl⟩
theorem six {k : Int} (h : 1 ≤ k ∧ k ≤ 6) : k = 1 ∨ k = 2 ∨ k = 3 ∨ k = 4 ∨ k = 5 ∨ k = 6 := by omega
theorem xR4 {m : MsgL} (hm : 1 ≤ m.kind ∧ m.kind ≤ 6) : VC Tryz.prog 69 [.agg (encM m)] [] (.ifc (105 + m.kind.toNat) (encM m)) [] := by
  obtain ⟨k, m2, m3, m4, m5, m6, m7⟩ := m
  simp only at hm
  rcases six hm with rfl | rfl | rfl | rfl | rfl | rfl
  · refine vcs vf69 ?_
    repeat first|refine sgo ?_|refine sop ?_
    refine cndt ?_
    repeat first|refine sgo ?_|refine o_v0 vifc ?_|refine sop ?_
    exact xAC ⟨.inr rfl, oAny rfl⟩
  · refine vcs vf69 ?_
    repeat first|refine sgo ?_|refine sop ?_
    refine cndf ?_
    repeat first|refine sgo ?_|refine sop ?_
    refine cndt ?_
    repeat first|refine sgo ?_|refine o_v0 vifc ?_|refine sop ?_
    exact xAC ⟨.inr rfl, oAny rfl⟩
  · refine vcs vf69 ?_
    repeat first|refine sgo ?_|refine sop ?_
    refine cndf ?_
    repeat first|refine sgo ?_|refine sop ?_
    refine cndf ?_
    repeat first|refine sgo ?_|refine sop ?_
    refine cndt ?_
    repeat first|refine sgo ?_|refine o_v0 vifc ?_|refine sop ?_
    exact xAC ⟨.inr rfl, oAny rfl⟩
  · refine vcs vf69 ?_
    repeat first|refine sgo ?_|refine sop ?_
    refine cndf ?_
    repeat first|refine sgo ?_|refine sop ?_
    refine cndf ?_
    repeat first|refine sgo ?_|refine sop ?_
    refine cndf ?_
    repeat first|refine sgo ?_|refine sop ?_
    refine cndt ?_
    repeat first|refine sgo ?_|refine o_v0 vifc ?_|refine sop ?_
    exact xAC ⟨.inr rfl, oAny rfl⟩
  · refine vcs vf69 ?_
    repeat first|refine sgo ?_|refine sop ?_
    refine cndf ?_
    repeat first|refine sgo ?_|refine sop ?_
    refine cndf ?_
    repeat first|refine sgo ?_|refine sop ?_
    refine cndf ?_
    repeat first|refine sgo ?_|refine sop ?_
    refine cndf ?_
    repeat first|refine sgo ?_|refine sop ?_
    refine cndt ?_
    repeat first|refine sgo ?_|refine o_v0 vifc ?_|refine sop ?_
    exact xAC ⟨.inr rfl, oAny rfl⟩
  · refine vcs vf69 ?_
    repeat first|refine sgo ?_|refine sop ?_
    refine cndf ?_
    repeat first|refine sgo ?_|refine sop ?_
    refine cndf ?_
    repeat first|refine sgo ?_|refine sop ?_
    refine cndf ?_
    repeat first|refine sgo ?_|refine sop ?_
    refine cndf ?_
    repeat first|refine sgo ?_|refine sop ?_
    refine cndf ?_
    repeat first|refine sgo ?_|refine sop ?_
    refine cndt ?_
    repeat first|refine sgo ?_|refine o_v0 vifc ?_|refine sop ?_
    exact xAC ⟨.inr rfl, oAny rfl⟩
theorem disp_vc {f : Nat} {m : MsgL} {l : List SpanL} {g : Nat} (hm : 1 ≤ m.kind ∧ m.kind ≤ 6) : True := trivial
theorem xFS {m : MsgL} (hm : MsgSz m) : VC Tryz.prog 58 [.agg (encM m)] [] (.sh false ((xAG m).map encS)) [] := by
  have ho := xR4 hm.k
  have a1 := ((xTb hm) : VC Tryz.prog _ [.agg (encM m)] [] _ [])
  have a2 := ((xTc hm) : VC Tryz.prog _ [.agg (encM m)] [] _ [])
  have a3 := ((xRM _) : VC Tryz.prog _ [.agg (encM m)] [] _ [])
  have a4 := ((xRL hm) : VC Tryz.prog _ [.agg (encM m)] [] _ [])
  have a5 := ((xOh hm) : VC Tryz.prog _ [.agg (encM m)] [] _ [])
  have a6 := ((xOg _) : VC Tryz.prog _ [.agg (encM m)] [] _ [])
  have hk := hm.k
  obtain ⟨k, m2, m3, m4, m5, m6, m7⟩ := m
  simp only at hk
  rcases six hk with rfl | rfl | rfl | rfl | rfl | rfl
  · refine vcs vf58 ?_
    repeat first|refine sgo ?_|refine cf ho ?_|refine o_v0 visn ?_|refine sop ?_
    refine cndt ?_
    repeat first|refine sgo ?_|refine cf a1 ?_|refine sop ?_
    exact xAC ⟨.inr rfl, oAny rfl⟩
  · refine vcs vf58 ?_
    repeat first|refine sgo ?_|refine cf ho ?_|refine o_v0 visn ?_|refine sop ?_
    refine cndt ?_
    repeat first|refine sgo ?_|refine cf a2 ?_|refine sop ?_
    exact xAC ⟨.inr rfl, oAny rfl⟩
  · refine vcs vf58 ?_
    repeat first|refine sgo ?_|refine cf ho ?_|refine o_v0 visn ?_|refine sop ?_
    refine cndt ?_
    repeat first|refine sgo ?_|refine cf a3 ?_|refine sop ?_
    exact xAC ⟨.inr rfl, oAny rfl⟩
  · refine vcs vf58 ?_
    repeat first|refine sgo ?_|refine cf ho ?_|refine o_v0 visn ?_|refine sop ?_
    refine cndt ?_
    repeat first|refine sgo ?_|refine cf a4 ?_|refine sop ?_
    exact xAC ⟨.inr rfl, oAny rfl⟩
  · refine vcs vf58 ?_
    repeat first|refine sgo ?_|refine cf ho ?_|refine o_v0 visn ?_|refine sop ?_
    refine cndt ?_
    repeat first|refine sgo ?_|refine cf a5 ?_|refine sop ?_
    exact xAC ⟨.inr rfl, oAny rfl⟩
  · refine vcs vf58 ?_
    repeat first|refine sgo ?_|refine cf ho ?_|refine o_v0 visn ?_|refine sop ?_
    refine cndt ?_
    repeat first|refine sgo ?_|refine cf a6 ?_|refine sop ?_
    exact xAC ⟨.inr rfl, oAny rfl⟩
theorem xMo {m : MsgL} (hm : MsgSz m) : VC Tryz.prog 74 [.agg (encM m)] [] (.sh false ((xA2 m).map encS)) [] := by
  have ho := xR4 hm.k
  have a1 := ((xUC _) : VC Tryz.prog _ [.agg (encM m)] [] _ [])
  have a2 := ((xUE _) : VC Tryz.prog _ [.agg (encM m)] [] _ [])
  have a3 := ((xRo _) : VC Tryz.prog _ [.agg (encM m)] [] _ [])
  have a4 := ((xRk hm) : VC Tryz.prog _ [.agg (encM m)] [] _ [])
  have a5 := ((xPU hm) : VC Tryz.prog _ [.agg (encM m)] [] _ [])
  have a6 := ((xPN _) : VC Tryz.prog _ [.agg (encM m)] [] _ [])
  have hk := hm.k
  obtain ⟨k, m2, m3, m4, m5, m6, m7⟩ := m
  simp only at hk
  rcases six hk with rfl | rfl | rfl | rfl | rfl | rfl
  · refine vcs vf74 ?_
    repeat first|refine sgo ?_|refine cf ho ?_|refine o_v0 visn ?_|refine sop ?_
    refine cndt ?_
    repeat first|refine sgo ?_|refine cf a1 ?_|refine sop ?_
    exact xAC ⟨.inr rfl, oAny rfl⟩
  · refine vcs vf74 ?_
    repeat first|refine sgo ?_|refine cf ho ?_|refine o_v0 visn ?_|refine sop ?_
    refine cndt ?_
    repeat first|refine sgo ?_|refine cf a2 ?_|refine sop ?_
    exact xAC ⟨.inr rfl, oAny rfl⟩
  · refine vcs vf74 ?_
    repeat first|refine sgo ?_|refine cf ho ?_|refine o_v0 visn ?_|refine sop ?_
    refine cndt ?_
    repeat first|refine sgo ?_|refine cf a3 ?_|refine sop ?_
    exact xAC ⟨.inr rfl, oAny rfl⟩
  · refine vcs vf74 ?_
    repeat first|refine sgo ?_|refine cf ho ?_|refine o_v0 visn ?_|refine sop ?_
    refine cndt ?_
    repeat first|refine sgo ?_|refine cf a4 ?_|refine sop ?_
    exact xAC ⟨.inr rfl, oAny rfl⟩
  · refine vcs vf74 ?_
    repeat first|refine sgo ?_|refine cf ho ?_|refine o_v0 visn ?_|refine sop ?_
    refine cndt ?_
    repeat first|refine sgo ?_|refine cf a5 ?_|refine sop ?_
    exact xAC ⟨.inr rfl, oAny rfl⟩
  · refine vcs vf74 ?_
    repeat first|refine sgo ?_|refine cf ho ?_|refine o_v0 visn ?_|refine sop ?_
    refine cndt ?_
    repeat first|refine sgo ?_|refine cf a6 ?_|refine sop ?_
    exact xAC ⟨.inr rfl, oAny rfl⟩
end Go.Proofs
open Go.V Go.Pu
set_option linter.unusedVariables false
set_option linter.unusedSimpArgs false
set_option maxRecDepth 20000
namespace Go.Proofs
def vc32 := vcm Tryz.prog 32
theorem vf32 : VF Tryz.prog 32 = some (30, vc32, [.tmp 2]) := by kernel_rfl
def vc33 := vcm Tryz.prog 33
theorem vf33 : VF Tryz.prog 33 = some (18, vc33, [.tmp 2]) := by kernel_rfl
theorem xFy {m : MsgL} (hm : MsgSz m) : VC Tryz.prog 32 [.agg (encM m)] [] (.sh false ((xAG m).map encS)) [] := by
  have a1 := xLy m.key (by have := hm.key; omega)
  have a2 := xCv m.fr (by have := hm.fr; omega)
  have a3 := xCv m.to (by have := hm.to; omega)
  refine xD9 ?_
  have hk := hm.k
  obtain ⟨k, m2, m3, m4, m5, m6, m7⟩ := m
  simp only at hk
  rcases six hk with rfl | rfl | rfl | rfl | rfl | rfl
  · refine vcs vf32 ?_
    repeat first|refine sgo ?_|refine sop ?_
    refine cndt (xAA ?_)
    refine cndt ?_
    repeat first|refine sgo ?_|refine cv0 a1 ?_|refine sop ?_
    exact xAC ⟨.inr rfl, oOwn rfl⟩
  · refine vcs vf32 ?_
    repeat first|refine sgo ?_|refine sop ?_
    refine cndf ?_
    repeat first|refine sgo ?_|refine sop ?_
    refine cndt ?_
    repeat first|refine sgo ?_|refine cv0 a1 ?_|refine sop ?_
    exact xAC ⟨.inr rfl, oOwn rfl⟩
  · refine vcs vf32 ?_
    repeat first|refine sgo ?_|refine sop ?_
    refine cndf ?_
    repeat first|refine sgo ?_|refine sop ?_
    refine cndf ?_
    repeat first|refine sgo ?_|refine sop ?_
    refine cndf ?_
    repeat first|refine sgo ?_|refine sop ?_
    refine cndf (xAA ?_)
    repeat first|refine sgo ?_|refine sop ?_
    exact xAC ⟨.inr rfl, oOwn rfl⟩
  · refine vcs vf32 ?_
    repeat first|refine sgo ?_|refine sop ?_
    refine cndf ?_
    repeat first|refine sgo ?_|refine sop ?_
    refine cndf ?_
    repeat first|refine sgo ?_|refine sop ?_
    refine cndt ?_
    repeat first|refine sgo ?_|refine cv0 a2 ?_|refine cv0 a3 ?_|refine sop ?_
    exact xAC ⟨.inr rfl, oOwn rfl⟩
  · refine vcs vf32 ?_
    repeat first|refine sgo ?_|refine sop ?_
    refine cndf ?_
    repeat first|refine sgo ?_|refine sop ?_
    refine cndf ?_
    repeat first|refine sgo ?_|refine sop ?_
    refine cndf ?_
    repeat first|refine sgo ?_|refine sop ?_
    refine cndt ?_
    repeat first|refine sgo ?_|refine cv0 a3 ?_|refine sop ?_
    exact xAC ⟨.inr rfl, oOwn rfl⟩
  · refine vcs vf32 ?_
    repeat first|refine sgo ?_|refine sop ?_
    refine cndf ?_
    repeat first|refine sgo ?_|refine sop ?_
    refine cndf ?_
    repeat first|refine sgo ?_|refine sop ?_
    refine cndf ?_
    repeat first|refine sgo ?_|refine sop ?_
    refine cndf (xAA ?_)
    repeat first|refine sgo ?_|refine sop ?_
    exact xAC ⟨.inr rfl, oOwn rfl⟩
theorem xKg {m : MsgL} (hm : MsgSz m) : VC Tryz.prog 33 [.agg (encM m)] [] (.sh false ((xA2 m).map encS)) [] := by
  have a2 := xCv m.fr (by have := hm.fr; omega)
  refine xD9 ?_
  have hk := hm.k
  obtain ⟨k, m2, m3, m4, m5, m6, m7⟩ := m
  simp only at hk
  rcases six hk with rfl | rfl | rfl | rfl | rfl | rfl
  · refine vcs vf33 ?_
    repeat first|refine sgo ?_|refine sop ?_
    refine cndf ?_
    repeat first|refine sgo ?_|refine sop ?_
    refine cndf ?_
    repeat first|refine sgo ?_|refine sop ?_
    refine cndf (xAA ?_)
    repeat first|refine sgo ?_|refine sop ?_
    exact xAC ⟨.inr rfl, oOwn rfl⟩
  · refine vcs vf33 ?_
    repeat first|refine sgo ?_|refine sop ?_
    refine cndf ?_
    repeat first|refine sgo ?_|refine sop ?_
    refine cndf ?_
    repeat first|refine sgo ?_|refine sop ?_
    refine cndf (xAA ?_)
    repeat first|refine sgo ?_|refine sop ?_
    exact xAC ⟨.inr rfl, oOwn rfl⟩
  · refine vcs vf33 ?_
    repeat first|refine sgo ?_|refine sop ?_
    refine cndf ?_
    repeat first|refine sgo ?_|refine sop ?_
    refine cndf ?_
    repeat first|refine sgo ?_|refine sop ?_
    refine cndf (xAA ?_)
    repeat first|refine sgo ?_|refine sop ?_
    exact xAC ⟨.inr rfl, oOwn rfl⟩
  · refine vcs vf33 ?_
    repeat first|refine sgo ?_|refine sop ?_
    refine cndt (xAA ?_)
    refine cndt ?_
    repeat first|refine sgo ?_|refine cv0 a2 ?_|refine sop ?_
    exact xAC ⟨.inr rfl, oOwn rfl⟩
  · refine vcs vf33 ?_
    repeat first|refine sgo ?_|refine sop ?_
    refine cndf ?_
    repeat first|refine sgo ?_|refine sop ?_
    refine cndt ?_
    repeat first|refine sgo ?_|refine cv0 a2 ?_|refine sop ?_
    exact xAC ⟨.inr rfl, oOwn rfl⟩
  · refine vcs vf33 ?_
    repeat first|refine sgo ?_|refine sop ?_
    refine cndf ?_
    repeat first|refine sgo ?_|refine sop ?_
    refine cndf ?_
    repeat first|refine sgo ?_|refine sop ?_
    refine cndt ?_
    repeat first|refine sgo ?_|refine sop ?_
    exact xAC ⟨.inr rfl, oOwn rfl⟩
end Go.Proofs
