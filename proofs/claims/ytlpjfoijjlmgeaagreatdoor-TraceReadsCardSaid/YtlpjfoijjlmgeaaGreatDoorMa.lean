/- Ma -/
import Derived.Test.YtlpjfoijjlmgeaaGreatDoorSa
import Derived.Test.YtlpjfoijjlmgeaaGreatDoorPu
open Go.V Go.Pu
set_option linter.unusedVariables false
set_option linter.unusedSimpArgs false
set_option maxRecDepth 20000
namespace Go.Proofs
def vc38 := vcm Tryz.prog 38
theorem vf38 : VF Tryz.prog 38 = some (8, vc38, [.tmp 2]) := by kernel_rfl
def vc36 := vcm Tryz.prog 36
theorem vf36 : VF Tryz.prog 36 = some (13, vc36, [.tmp 2]) := by kernel_rfl
def vc41 := vcm Tryz.prog 41
theorem vf41 : VF Tryz.prog 41 = some (8, vc41, [.tmp 2]) := by kernel_rfl
abbrev encM (m : MsgL) : List PV := [.int .i64 m.kind, .str m.key, .str m.val, .str m.sp.lo, .str m.sp.hi, .str m.fr, .str m.to, .int .i64 m.n]
abbrev encW (x : RawM) : List PV := [.int .u8 x.a, .int .u8 x.b, .int .u8 x.c, .int .u8 x.d, .int .u8 x.e, .int .u8 x.f]
theorem tm (n m : Nat) : Int.tmod (n : Int) (m : Int) = ((n % m : Nat) : Int) := by
  rw [Int.tmod_eq_emod_of_nonneg (by omega)]; rfl
theorem xKu (n : Nat) : VC Tryz.prog 38 [.int .u8 n] [] (.str (xA2 n)) [] := by
  have h1 : Int.tmod (n : Int) 5 = ((n % 5 : Nat) : Int) := tm n 5
  have hlt : n % 5 < 5 := Nat.mod_lt _ (by omega)
  have hx : (paths5.map fun s => [PV.str s])[((n % 5 : Nat) : Int).toNat]? = some [.str (xA2 n)] := by
    unfold xA2 paths5
    rw [Int.toNat_natCast]
    generalize n % 5 = m at hlt
    match m, hlt with
    | 0, _ => rfl
    | 1, _ => rfl
    | 2, _ => rfl
    | 3, _ => rfl
    | 4, _ => rfl
  refine vcs vf38 ?_
  repeat first|refine sgo ?_|refine xCX ?_|refine sop ?_
  exact xAC ⟨.inr rfl, oS rfl⟩
theorem val_vc (n : Nat) : VC Tryz.prog 41 [.int .u8 n] [] (.str (valM n)) [] := by
  have h1 : Int.tmod (n : Int) 5 = ((n % 5 : Nat) : Int) := tm n 5
  have hlt : n % 5 < 5 := Nat.mod_lt _ (by omega)
  have hx : (vals5.map fun s => [PV.str s])[((n % 5 : Nat) : Int).toNat]? = some [.str (valM n)] := by
    unfold valM vals5
    rw [Int.toNat_natCast]
    generalize n % 5 = m at hlt
    match m, hlt with
    | 0, _ => rfl
    | 1, _ => rfl
    | 2, _ => rfl
    | 3, _ => rfl
    | 4, _ => rfl
  refine vcs vf41 ?_
  repeat first|refine sgo ?_|refine xCX ?_|refine sop ?_
  exact xAC ⟨.inr rfl, oS rfl⟩
theorem quoN {k : IntKind} {n m : Nat} {z : Int} (hz : z = n) (hm : 0 < m) (hw : k.wrap ((n / m : Nat) : Int) = ((n / m : Nat) : Int)) : bin .quo (.int k z) (.int k (m : Nat)) = some (.int k ((n / m : Nat) : Int)) := by
  subst hz
  have h1 : ((m : Nat) : Int) ≠ 0 := by omega
  have h2 : (n : Int).tdiv (m : Int) = ((n / m : Nat) : Int) := rfl
  simp only [bin, if_true, xEN, if_neg h1, h2, hw]
theorem wrap8 {n : Nat} (h : n < 256) : IntKind.u8.wrap (n : Int) = (n : Int) := by
  simp [IntKind.wrap, IntKind.bits, IntKind.signed]
  omega
theorem xOg {n : Nat} (hn : n < 256) : VC Tryz.prog 36 [.int .u8 n] [] (.str (keyM n)) [] := by
  have h1 : Int.tmod (n : Int) 4 = ((n % 4 : Nat) : Int) := tm n 4
  have hp := xKu (n % 4)
  have hq : bin .quo (.int .u8 (n : Int)) (.int .u8 4) = some (.int .u8 ((n / 4 : Nat) : Int)) := quoN (k := .u8) (n := n) (m := 4) rfl (by omega) (wrap8 (by omega))
  have h2 : Int.tmod ((n / 4 : Nat) : Int) 5 = ((n / 4 % 5 : Nat) : Int) := tm (n / 4) 5
  have hlt : n / 4 % 5 < 5 := Nat.mod_lt _ (by omega)
  have hx : (ends5.map fun s => [PV.str s])[((n / 4 % 5 : Nat) : Int).toNat]? = some [.str (endM (n / 4))] := by
    unfold endM ends5
    rw [Int.toNat_natCast]
    generalize n / 4 % 5 = m at hlt
    match m, hlt with
    | 0, _ => rfl
    | 1, _ => rfl
    | 2, _ => rfl
    | 3, _ => rfl
    | 4, _ => rfl
  have hl1 := (xC9 (xCg (n % 4))).1
  have hl2 : ∀ p ∈ ends5, p.length ≤ 3 := by decide
  have hl3 := hl2 _ (xOv (n / 4))
  refine vcs vf36 ?_
  repeat first|refine sgo ?_|refine xCX ?_|refine cv0 hp ?_|refine xBx hq ?_|refine sop ?_
  exact xAC ⟨.inr rfl, oS rfl⟩
end Go.Proofs
open Go.V Go.Pu
set_option linter.unusedVariables false
set_option linter.unusedSimpArgs false
set_option maxRecDepth 20000
namespace Go.Proofs
def vc22 := vcm Tryz.prog 22
theorem vf22 : VF Tryz.prog 22 = some (102, vc22, [.cell true 8 2]) := by kernel_rfl
def vc7 := vcm Tryz.prog 7
theorem vf7 : VF Tryz.prog 7 = some (28, vc7, [.tmp 4]) := by kernel_rfl
theorem min_eq (a b : Str) : (if (Op.bytesLess a b || a == b) = true then a else b) = minS a b := by
  unfold minS
  rcases xBt a b with h | h | h
  · have := xBp h; simp [h, this]
  · subst h; simp [xAs]
  · have h1 := xBp h
    have h2 := xDB h
    simp [h, h1, h2.symm]
set_option maxHeartbeats 4000000 in
theorem xSm {x : RawM} (hx : x.ok) : VC Tryz.prog 22 [.agg (encW x)] [] (.agg (encM (xAq x))) [] := by
  obtain ⟨x1, x2, x3, x4, x5, x6⟩ := hx
  have k1 := xOg x2
  have k2 := xOg x4
  have p1 := xKu x.b
  have p2 := xKu x.d
  have hl1 := (xC9 (xCg x.b)).1
  have hl2 := (xC9 (xCg x.d)).1
  have hk1 := xK6 x.b
  have v1 := val_vc x.c
  have e1 : Int.tmod (x.e : Int) 4 = ((x.e % 4 : Nat) : Int) := tm x.e 4
  have e2 : Int.tmod (x.e : Int) 16 = ((x.e % 16 : Nat) : Int) := tm x.e 16
  have e3 : Int.tmod (x.f : Int) 8 = ((x.f % 8 : Nat) : Int) := tm x.f 8
  have e4 : Int.tmod (x.a : Int) 6 = ((x.a % 6 : Nat) : Int) := tm x.a 6
  have w3 : IntKind.i64.wrap ((x.f % 8 : Nat) : Int) = ((x.f % 8 : Nat) : Int) := xCK (by omega) (by omega)
  have pr := xMu (xA2 x.b) (by omega)
  have on := xSG (keyM x.b) (by omega)
  have b1 := xKV (xA2 x.b) (xA2 x.d) (by omega) (by omega)
  have b2 := xKV (xA2 x.d) (xA2 x.b) (by omega) (by omega)
  refine vcs vf22 ?_
  refine xBH (rg ?_)
  repeat first|refine xAm ?_|refine sop ?_
  refine nl ?_
  refine xBH (rg ?_)
  repeat first|refine xAm ?_|refine cv0 k1 ?_|refine cv0 k2 ?_|refine sop ?_
  refine nl ?_
  refine xBH (rg ?_)
  repeat first|refine xAm ?_|refine sop ?_
  refine nl ?_
  refine xB0 (lvl := 1) (fun (_ : Unit) => [(1, .ptr ⟨1, 0⟩ 1 0 0), (2, .ptr ⟨1, 8⟩ 1 0 0), (3, .str (keyM x.b)), (4, .str (keyM x.d)), (5, .ptr ⟨1, 16440⟩ 1 0 0)])
    (fun _ => [(⟨1, 0⟩, ⟨true, false, 6, [encW x]⟩), (⟨1, 8⟩, ⟨true, false, 8, [[.int .i64 0, .str [], .str [], .str [], .str [], .str [], .str [], .int .i64 0]]⟩), (⟨1, 16440⟩, ⟨true, false, 2, [encS (spM x)]⟩)]) (fun _ => True) ?_ ?_
  · by_cases h1 : x.e % 4 = 0
    · have g1 : (((x.e % 4 : Nat) : Int) == 0) = true := by rw [h1]; rfl
      have e : spM x = xAG (xA2 x.b) := by unfold spM; rw [if_pos h1]
      rw [e]
      repeat first|refine sgo ?_|refine xCX ?_|refine sop ?_
      refine cndt ?_
      repeat first|refine sgo ?_|refine cv0 p1 ?_|refine cv0 pr ?_|refine sop ?_
      exact ⟨(), trivial, xA7⟩
    have g1 : (((x.e % 4 : Nat) : Int) == 0) = false := by simp; omega
    by_cases h2 : x.e % 16 = 1
    · have g2 : (((x.e % 16 : Nat) : Int) == 1) = true := by rw [h2]; rfl
      have e : spM x = ⟨keyM x.b, []⟩ := by unfold spM; rw [if_neg h1, if_pos h2]
      rw [e]
      repeat first|refine sgo ?_|refine xCX ?_|refine sop ?_
      refine cndf ?_
      repeat first|refine sgo ?_|refine xCX ?_|refine sop ?_
      refine cndt ?_
      repeat first|refine sgo ?_|refine sop ?_
      exact ⟨(), trivial, xA7⟩
    have g2 : (((x.e % 16 : Nat) : Int) == 1) = false := by simp; omega
    by_cases h3 : x.e % 16 = 5
    · have g3 : (((x.e % 16 : Nat) : Int) == 5) = true := by rw [h3]; rfl
      have e : spM x = ⟨[], []⟩ := by unfold spM; rw [if_neg h1, if_neg h2, if_pos h3]
      rw [e]
      repeat first|refine sgo ?_|refine xCX ?_|refine sop ?_
      refine cndf ?_
      repeat first|refine sgo ?_|refine xCX ?_|refine sop ?_
      refine cndf ?_
      repeat first|refine sgo ?_|refine xCX ?_|refine sop ?_
      refine cndt ?_
      repeat first|refine sgo ?_|refine sop ?_
      exact ⟨(), trivial, xA7⟩
    have g3 : (((x.e % 16 : Nat) : Int) == 5) = false := by simp; omega
    by_cases h4 : keyM x.b = keyM x.d
    · have g4 : (keyM x.b == keyM x.d) = true := by rw [h4]; simp
      have e : spM x = oneL (keyM x.b) := by unfold spM; rw [if_neg h1, if_neg h2, if_neg h3, if_pos h4]
      rw [e]
      repeat first|refine sgo ?_|refine xCX ?_|refine sop ?_
      refine cndf ?_
      repeat first|refine sgo ?_|refine xCX ?_|refine sop ?_
      refine cndf ?_
      repeat first|refine sgo ?_|refine xCX ?_|refine sop ?_
      refine cndf ?_
      repeat first|refine sgo ?_|refine sop ?_
      refine cndt ?_
      repeat first|refine sgo ?_|refine cv0 on ?_|refine sop ?_
      exact ⟨(), trivial, xA7⟩
    · have g4 : (keyM x.b == keyM x.d) = false := by simpa using h4
      have e : spM x = ⟨minS (keyM x.b) (keyM x.d), maxL (keyM x.b) (keyM x.d)⟩ := by unfold spM; rw [if_neg h1, if_neg h2, if_neg h3, if_neg h4]
      rw [e, ← min_eq]
      repeat first|refine sgo ?_|refine xCX ?_|refine sop ?_
      refine cndf ?_
      repeat first|refine sgo ?_|refine xCX ?_|refine sop ?_
      refine cndf ?_
      repeat first|refine sgo ?_|refine xCX ?_|refine sop ?_
      refine cndf ?_
      repeat first|refine sgo ?_|refine sop ?_
      refine cndf (xAB ?_)
      exact ⟨(), trivial, xA7⟩
  intro _ _
  generalize hsp : spM x = sp
  refine xBH (rg ?_)
  repeat first|refine xAm ?_|refine cv0 p1 ?_|refine cv0 p2 ?_|refine sop ?_
  refine nl ?_
  refine xB0 (lvl := 1) (fun (_ : Unit) => [(1, .ptr ⟨1, 0⟩ 1 0 0), (2, .ptr ⟨1, 8⟩ 1 0 0), (3, .str (keyM x.b)), (5, .ptr ⟨1, 16440⟩ 1 0 0), (6, .str (xA2 x.b)), (7, .str (toM x))])
    (fun _ => [(⟨1, 0⟩, ⟨true, false, 6, [encW x]⟩), (⟨1, 8⟩, ⟨true, false, 8, [[.int .i64 0, .str [], .str [], .str [], .str [], .str [], .str [], .int .i64 0]]⟩), (⟨1, 16440⟩, ⟨true, false, 2, [encS sp]⟩)]) (fun _ => True) ?_ ?_
  · by_cases hA : xAD (xA2 x.b) (xA2 x.d) = true ∨ xAD (xA2 x.d) (xA2 x.b) = true
    · by_cases hB : xA2 x.b = [100, 47]
      · have g4 : (xA2 x.b == [100, 47]) = true := by rw [hB]; rfl
        have e : toM x = [99, 47] := by unfold toM; rw [if_pos hA, if_pos hB]
        rw [e]
        cases hb1 : xAD (xA2 x.b) (xA2 x.d) with
        | true =>
          rw [hb1] at b1
          repeat first|refine sgo ?_|refine cv0 b1 ?_|refine sop ?_
          refine cndt ?_
          repeat first|refine sgo ?_|refine sop ?_
          refine cndt ?_
          repeat first|refine sgo ?_|refine sop ?_
          exact ⟨(), trivial, xA7⟩
        | false =>
          rw [hb1] at b1
          rw [hA.resolve_left (by rw [hb1]; simp)] at b2
          repeat first|refine sgo ?_|refine cv0 b1 ?_|refine cv0 b2 ?_|refine sop ?_
          refine cndt ?_
          repeat first|refine sgo ?_|refine sop ?_
          refine cndt ?_
          repeat first|refine sgo ?_|refine sop ?_
          exact ⟨(), trivial, xA7⟩
      · have g4 : (xA2 x.b == [100, 47]) = false := by simpa using hB
        have e : toM x = [100, 47] := by unfold toM; rw [if_pos hA, if_neg hB]
        rw [e]
        cases hb1 : xAD (xA2 x.b) (xA2 x.d) with
        | true =>
          rw [hb1] at b1
          repeat first|refine sgo ?_|refine cv0 b1 ?_|refine sop ?_
          refine cndt ?_
          repeat first|refine sgo ?_|refine sop ?_
          refine cndf (xAB ?_)
          exact ⟨(), trivial, xA7⟩
        | false =>
          rw [hb1] at b1
          rw [hA.resolve_left (by rw [hb1]; simp)] at b2
          repeat first|refine sgo ?_|refine cv0 b1 ?_|refine cv0 b2 ?_|refine sop ?_
          refine cndt ?_
          repeat first|refine sgo ?_|refine sop ?_
          refine cndf (xAB ?_)
          exact ⟨(), trivial, xA7⟩
    · have e : toM x = xA2 x.d := by unfold toM; rw [if_neg hA]
      rw [e]
      have hb1 : xAD (xA2 x.b) (xA2 x.d) = false := by cases h : xAD (xA2 x.b) (xA2 x.d) with | false => rfl | true => exact (hA (.inl h)).elim
      have hb2 : xAD (xA2 x.d) (xA2 x.b) = false := by cases h : xAD (xA2 x.d) (xA2 x.b) with | false => rfl | true => exact (hA (.inr h)).elim
      rw [hb1] at b1
      rw [hb2] at b2
      repeat first|refine sgo ?_|refine cv0 b1 ?_|refine cv0 b2 ?_|refine sop ?_
      refine cndf (xAB ?_)
      exact ⟨(), trivial, xA7⟩
  intro _ _
  have h6 : x.a % 6 < 6 := Nat.mod_lt _ (by omega)
  by_cases c0 : x.a % 6 = 0
  · have g0 : (((x.a % 6 : Nat) : Int) == 0) = true := by rw [c0]; rfl
    have e : xAq x = ⟨1, keyM x.b, valM x.c, ⟨[], []⟩, [], [], (x.f % 8 : Nat)⟩ := by unfold xAq; rw [if_pos c0]
    rw [e]
    repeat first|refine sgo ?_|refine xCX ?_|refine xBZ ?_|refine sop ?_
    refine cndt ?_
    repeat first|refine sgo ?_|refine cv0 v1 ?_|refine sop ?_
    exact xAC ⟨.inr rfl, oAny rfl⟩
  have g0 : (((x.a % 6 : Nat) : Int) == 0) = false := by simp; omega
  by_cases c1 : x.a % 6 = 1
  · have g1 : (((x.a % 6 : Nat) : Int) == 1) = true := by rw [c1]; rfl
    have e : xAq x = ⟨2, keyM x.b, [], ⟨[], []⟩, [], [], 0⟩ := by unfold xAq; rw [if_neg c0, if_pos c1]
    rw [e]
    repeat first|refine sgo ?_|refine xCX ?_|refine xBZ ?_|refine sop ?_
    refine cndf ?_
    repeat first|refine sgo ?_|refine sop ?_
    refine cndt ?_
    repeat first|refine sgo ?_|refine sop ?_
    exact xAC ⟨.inr rfl, oAny rfl⟩
  have g1 : (((x.a % 6 : Nat) : Int) == 1) = false := by simp; omega
  by_cases c2 : x.a % 6 = 2
  · have g2 : (((x.a % 6 : Nat) : Int) == 2) = true := by rw [c2]; rfl
    have e : xAq x = ⟨3, [], [], sp, [], [], 0⟩ := by unfold xAq; rw [if_neg c0, if_neg c1, if_pos c2, hsp]
    rw [e]
    repeat first|refine sgo ?_|refine xCX ?_|refine xBZ ?_|refine sop ?_
    refine cndf ?_
    repeat first|refine sgo ?_|refine sop ?_
    refine cndf ?_
    repeat first|refine sgo ?_|refine sop ?_
    refine cndt ?_
    repeat first|refine sgo ?_|refine sop ?_
    exact xAC ⟨.inr rfl, oAny rfl⟩
  have g2 : (((x.a % 6 : Nat) : Int) == 2) = false := by simp; omega
  by_cases c3 : x.a % 6 = 3
  · have g3 : (((x.a % 6 : Nat) : Int) == 3) = true := by rw [c3]; rfl
    have e : xAq x = ⟨4, [], [], ⟨[], []⟩, xA2 x.b, toM x, 0⟩ := by unfold xAq; rw [if_neg c0, if_neg c1, if_neg c2, if_pos c3]
    rw [e]
    repeat first|refine sgo ?_|refine xCX ?_|refine xBZ ?_|refine sop ?_
    refine cndf ?_
    repeat first|refine sgo ?_|refine sop ?_
    refine cndf ?_
    repeat first|refine sgo ?_|refine sop ?_
    refine cndf ?_
    repeat first|refine sgo ?_|refine sop ?_
    refine cndt ?_
    repeat first|refine sgo ?_|refine sop ?_
    exact xAC ⟨.inr rfl, oAny rfl⟩
  have g3 : (((x.a % 6 : Nat) : Int) == 3) = false := by simp; omega
  by_cases c4 : x.a % 6 = 4
  · have g4 : (((x.a % 6 : Nat) : Int) == 4) = true := by rw [c4]; rfl
    have e : xAq x = ⟨5, [], [], ⟨[], []⟩, xA2 x.b, toM x, 0⟩ := by unfold xAq; rw [if_neg c0, if_neg c1, if_neg c2, if_neg c3, if_pos c4]
    rw [e]
    repeat first|refine sgo ?_|refine xCX ?_|refine xBZ ?_|refine sop ?_
    refine cndf ?_
    repeat first|refine sgo ?_|refine sop ?_
    refine cndf ?_
    repeat first|refine sgo ?_|refine sop ?_
    refine cndf ?_
    repeat first|refine sgo ?_|refine sop ?_
    refine cndf ?_
    repeat first|refine sgo ?_|refine sop ?_
    refine cndt ?_
    repeat first|refine sgo ?_|refine sop ?_
    exact xAC ⟨.inr rfl, oAny rfl⟩
  have g4 : (((x.a % 6 : Nat) : Int) == 4) = false := by simp; omega
  have e : xAq x = ⟨6, [], [], sp, [], [], (x.f % 8 : Nat)⟩ := by unfold xAq; rw [if_neg c0, if_neg c1, if_neg c2, if_neg c3, if_neg c4, hsp]
  rw [e]
  repeat first|refine sgo ?_|refine xCX ?_|refine xBZ ?_|refine sop ?_
  refine cndf ?_
  repeat first|refine sgo ?_|refine sop ?_
  refine cndf ?_
  repeat first|refine sgo ?_|refine sop ?_
  refine cndf ?_
  repeat first|refine sgo ?_|refine sop ?_
  refine cndf ?_
  repeat first|refine sgo ?_|refine sop ?_
  refine cndf (xAB ?_)
  repeat first|refine sgo ?_|refine sop ?_
  exact xAC ⟨.inr rfl, oAny rfl⟩
end Go.Proofs
open Go.V Go.Pu
set_option linter.unusedVariables false
set_option linter.unusedSimpArgs false
set_option maxRecDepth 20000
namespace Go.Proofs
def vc52 := vcm Tryz.prog 52
theorem vf52 : VF Tryz.prog 52 = some (29, vc52, [.tmp 2]) := by kernel_rfl
theorem xKX : ∀ {l : List PV}, All2 PLe l l
  | [] => .nil
  | _ :: _ => .cons (PLe.refl _) xKX
theorem okW (l : List RawM) : okEls 6 (l.map encW) := okEls.map fun a => by simp [closed]
theorem okM (l : List MsgL) : okEls 8 (l.map encM) := okEls.map fun a => by simp [closed]
theorem xSp {l : List RawM} (hl : l.length ≤ 9223372036854775807) (hr : ∀ r ∈ l, r.ok) (n : Nat) (hn : n ≤ 1000) : VC Tryz.prog 7 [.sh false (l.map encW), .int .i64 n] [] (ownV ⟨0, 0⟩ ((xD9 l n).map encM)) [blkV 8 ((xD9 l n).map encM)] := by
  have hrl : (l.map encW).length = l.length := List.length_map _
  refine vcs vf7 ?_
  repeat first|refine sgo ?_|refine sop ?_
  refine xAK (fun (i : Nat) => [(0, .sh false (l.map encW)), (1, .int .i64 n), (5, ownV ⟨1, 8192⟩ (((l.take i).map xAq).map encM)), (6, .int .i64 i)]) (fun i => [(⟨1, 8192⟩, blkV 8 (((l.take i).map xAq).map encM))]) (fun i => l.length - i)
    (fun i => i ≤ l.length ∧ i ≤ n) 0 xA7 ⟨Nat.zero_le _, Nat.zero_le _⟩ ?_
  rintro i ⟨hi, hin⟩
  by_cases hA : i < l.length
  · have g1 : decide ((i : Int) < (l.map encW).length) = true := by rw [hrl]; simp; omega
    obtain ⟨r, hx⟩ : ∃ y, l[i]? = some y := ⟨_, List.getElem?_eq_getElem hA⟩
    have hxe := gm (enc := encW) (n := (i : Int)) hx (by omega)
    have hlt2 : (i : Int) < ((l.map encW).length : Nat) := by rw [hrl]; omega
    have hm := xSm (hr r (List.mem_of_getElem? hx))
    have htk : (l.take (i + 1)).map xAq = (l.take i).map xAq ++ [xAq r] := by rw [List.take_add_one, hx]; simp
    by_cases hB : i < n
    · have g2 : decide ((i : Int) < (n : Int)) = true := by simp; omega
      have hlen : ((l.take i).map xAq).length ≤ 1000 := by rw [List.length_map, List.length_take]; omega
      repeat first|refine sgo ?_|refine sop ?_
      refine cndt (xAB ?_)
      repeat first|refine sgo ?_|refine cv0 hm ?_|refine o_v (vap encM (xAq r)) ?_|refine sop ?_
      refine agn (Q := fun _ _ => True) (i + 1) ⟨by omega, by omega⟩ ?_
      rw [htk]
      exact xA7
    · have g2 : decide ((i : Int) < (n : Int)) = false := by simp; omega
      have he : xD9 l n = (l.take i).map xAq := by rw [xD9, show i = n by omega]
      rw [he]
      repeat first|refine sgo ?_|refine sop ?_
      refine cndf (xAE ?_)
      repeat first|refine sgo ?_|refine sop ?_
      exact xAC ⟨.inr rfl, oOwn rfl⟩
  · have g1 : decide ((i : Int) < (l.map encW).length) = false := by rw [hrl]; simp; omega
    have he : xD9 l n = (l.take i).map xAq := by rw [xD9, List.take_of_length_le (by omega), List.take_of_length_le (by omega)]
    rw [he]
    repeat first|refine sgo ?_|refine sop ?_
    refine cndf (xAE ?_)
    repeat first|refine sgo ?_|refine sop ?_
    exact xAC ⟨.inr rfl, oOwn rfl⟩
structure MsgSz (m : MsgL) : Prop where
  k : 1 ≤ m.kind ∧ m.kind ≤ 6
  key : m.key.length ≤ 1000000
  fr : m.fr.length ≤ 1000000
  to : m.to.length ≤ 1000000
theorem MsgSz.of {m : MsgL} (h1 : MsgOk m) (h2 : MsgLen 8 m) : MsgSz m := ⟨h1.k, by have := h2.key; omega, by have := h2.fr; omega, by have := h2.to; omega⟩
theorem l_sp {hf : HF} {b : Bid} {l : List SpanL} (hb : hf b = some (blkV 2 (l.map encS))) : xCR hf [] (ownV b (l.map encS)) = some ([b], .sh false (l.map encS)) := xAW hb rfl
theorem xQz {f : Nat} {args : List PV} {l : List SpanL} (h : VC Tryz.prog f args [] (ownV ⟨0, 0⟩ (l.map encS)) [blkV 2 (l.map encS)]) : VC Tryz.prog f args [] (.sh false (l.map encS)) [] := xIZ h (xAW rfl rfl)
theorem vc_nlS {f : Nat} {args : List PV} (h : VC Tryz.prog f args [] .nils []) : VC Tryz.prog f args [] (.sh false (([] : List SpanL).map encS)) [] := xDu h xKX (PLe.sl (.inl ⟨rfl, rfl⟩))
theorem vifc {t lvl site : Nat} {tf : TF} {hf : HF} {x : VX} {cs : List PV} (hx : ev tf x = some (.agg cs) := by rfl) (hc : cs.all closed = true := by rfl) : vop lvl site tf hf (.mkifc t x) = some ⟨.ifc t cs, [], []⟩ := by
  simp only [vop, hx, Option.bind_some, if_pos hc]; rfl
theorem visn {t lvl site : Nat} {tf : TF} {hf : HF} {x : VX} {cs : List PV} (hx : ev tf x = some (.ifc t cs) := by rfl) : vop lvl site tf hf (.isnili true x) = some ⟨.bool true, [], []⟩ := by
  simp only [vop, hx, Option.bind_some]; rfl
theorem six {k : Int} (h : 1 ≤ k ∧ k ≤ 6) : k = 1 ∨ k = 2 ∨ k = 3 ∨ k = 4 ∨ k = 5 ∨ k = 6 := by omega
theorem of_vc {m : MsgL} (hm : 1 ≤ m.kind ∧ m.kind ≤ 6) : VC Tryz.prog 52 [.agg (encM m)] [] (.ifc (105 + m.kind.toNat) (encM m)) [] := by
  obtain ⟨k, m2, m3, m4, m5, m6, m7⟩ := m
  simp only at hm
  rcases six hm with rfl | rfl | rfl | rfl | rfl | rfl
  · refine vcs vf52 ?_
    repeat first|refine sgo ?_|refine sop ?_
    refine cndt ?_
    repeat first|refine sgo ?_|refine o_v0 vifc ?_|refine sop ?_
    exact xAC ⟨.inr rfl, oAny rfl⟩
  · refine vcs vf52 ?_
    repeat first|refine sgo ?_|refine sop ?_
    refine cndf ?_
    repeat first|refine sgo ?_|refine sop ?_
    refine cndt ?_
    repeat first|refine sgo ?_|refine o_v0 vifc ?_|refine sop ?_
    exact xAC ⟨.inr rfl, oAny rfl⟩
  · refine vcs vf52 ?_
    repeat first|refine sgo ?_|refine sop ?_
    refine cndf ?_
    repeat first|refine sgo ?_|refine sop ?_
    refine cndf ?_
    repeat first|refine sgo ?_|refine sop ?_
    refine cndt ?_
    repeat first|refine sgo ?_|refine o_v0 vifc ?_|refine sop ?_
    exact xAC ⟨.inr rfl, oAny rfl⟩
  · refine vcs vf52 ?_
    repeat first|refine sgo ?_|refine sop ?_
    refine cndf ?_
    repeat first|refine sgo ?_|refine sop ?_
    refine cndf ?_
    repeat first|refine sgo ?_|refine sop ?_
    refine cndf ?_
    repeat first|refine sgo ?_|refine sop ?_
    refine cndt ?_
    repeat first|refine sgo ?_|refine o_v0 vifc ?_|refine sop ?_
    exact xAC ⟨.inr rfl, oAny rfl⟩
  · refine vcs vf52 ?_
    repeat first|refine sgo ?_|refine sop ?_
    refine cndf ?_
    repeat first|refine sgo ?_|refine sop ?_
    refine cndf ?_
    repeat first|refine sgo ?_|refine sop ?_
    refine cndf ?_
    repeat first|refine sgo ?_|refine sop ?_
    refine cndf ?_
    repeat first|refine sgo ?_|refine sop ?_
    refine cndt ?_
    repeat first|refine sgo ?_|refine o_v0 vifc ?_|refine sop ?_
    exact xAC ⟨.inr rfl, oAny rfl⟩
  · refine vcs vf52 ?_
    repeat first|refine sgo ?_|refine sop ?_
    refine cndf ?_
    repeat first|refine sgo ?_|refine sop ?_
    refine cndf ?_
    repeat first|refine sgo ?_|refine sop ?_
    refine cndf ?_
    repeat first|refine sgo ?_|refine sop ?_
    refine cndf ?_
    repeat first|refine sgo ?_|refine sop ?_
    refine cndf ?_
    repeat first|refine sgo ?_|refine sop ?_
    refine cndt ?_
    repeat first|refine sgo ?_|refine o_v0 vifc ?_|refine sop ?_
    exact xAC ⟨.inr rfl, oAny rfl⟩
theorem disp_vc {f : Nat} {m : MsgL} {l : List SpanL} {g : Nat} (hm : 1 ≤ m.kind ∧ m.kind ≤ 6) : True := trivial
end Go.Proofs
