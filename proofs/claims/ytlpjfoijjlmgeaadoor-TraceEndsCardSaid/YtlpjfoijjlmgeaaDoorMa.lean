/- Ma -/
import Derived.Test.YtlpjfoijjlmgeaaDoorSa
import Derived.Test.YtlpjfoijjlmgeaaDoorPu
import Derived.Test.YtlpjfoijjlmgeaaDoorVD
open Go.V Go.Pu
set_option linter.unusedVariables false
set_option linter.unusedSimpArgs false
set_option maxRecDepth 20000
namespace Go.Proofs
def vc47 := vcm Tryd.prog 47
theorem vf47 : VF Tryd.prog 47 = some (8, vc47, [.tmp 2]) := by kernel_rfl
def vc45 := vcm Tryd.prog 45
theorem vf45 : VF Tryd.prog 45 = some (13, vc45, [.tmp 2]) := by kernel_rfl
def vc50 := vcm Tryd.prog 50
theorem vf50 : VF Tryd.prog 50 = some (8, vc50, [.tmp 2]) := by kernel_rfl
abbrev encM (m : MsgL) : List PV := [.int .i64 m.kind, .str m.key, .str m.val, .str m.sp.lo, .str m.sp.hi, .str m.fr, .str m.to, .int .i64 m.n]
abbrev encW (x : RawM) : List PV := [.int .u8 x.a, .int .u8 x.b, .int .u8 x.c, .int .u8 x.d, .int .u8 x.e, .int .u8 x.f]
theorem tm (n m : Nat) : Int.tmod (n : Int) (m : Int) = ((n % m : Nat) : Int) := by
  rw [Int.tmod_eq_emod_of_nonneg (by omega)]; rfl
theorem xLI (n : Nat) : VC Tryd.prog 47 [.int .u8 n] [] (.str (xA1 n)) [] := by
  have h1 : Int.tmod (n : Int) 5 = ((n % 5 : Nat) : Int) := tm n 5
  have hlt : n % 5 < 5 := Nat.mod_lt _ (by omega)
  have hx : (paths5.map fun s => [PV.str s])[((n % 5 : Nat) : Int).toNat]? = some [.str (xA1 n)] := by
    unfold xA1 paths5
    rw [Int.toNat_natCast]
    generalize n % 5 = m at hlt
    match m, hlt with
    | 0, _ => rfl
    | 1, _ => rfl
    | 2, _ => rfl
    | 3, _ => rfl
    | 4, _ => rfl
  refine vcs vf47 ?_
  repeat first|refine sgo ?_|refine xCE ?_|refine sop ?_
  exact xAC ⟨.inr rfl, oS rfl⟩
theorem val_vc (n : Nat) : VC Tryd.prog 50 [.int .u8 n] [] (.str (valM n)) [] := by
  have h1 : Int.tmod (n : Int) 5 = ((n % 5 : Nat) : Int) := tm n 5
  have hlt : n % 5 < 5 := Nat.mod_lt _ (by omega)
  have hx : (vals5.map fun s => [PV.str s])[((n % 5 : Nat) : Int).toNat]? = some [.str (valM n)] := by
    unfold valM vals5
    rw [Int.toNat_natCast]
    generalize n % 5 = m at hlt
    match m, hlt with
    | 0, _ => rfl
    | 1, _ => rfl
    | 2, _ => rfl
    | 3, _ => rfl
    | 4, _ => rfl
  refine vcs vf50 ?_
  repeat first|refine sgo ?_|refine xCE ?_|refine sop ?_
  exact xAC ⟨.inr rfl, oS rfl⟩
theorem quoN {k : IntKind} {n m : Nat} {z : Int} (hz : z = n) (hm : 0 < m) (hw : k.wrap ((n / m : Nat) : Int) = ((n / m : Nat) : Int)) : bin .quo (.int k z) (.int k (m : Nat)) = some (.int k ((n / m : Nat) : Int)) := by
  subst hz
  have h1 : ((m : Nat) : Int) ≠ 0 := by omega
  have h2 : (n : Int).tdiv (m : Int) = ((n / m : Nat) : Int) := rfl
  simp only [bin, if_true, xEM, if_neg h1, h2, hw]
theorem wrap8 {n : Nat} (h : n < 256) : IntKind.u8.wrap (n : Int) = (n : Int) := by
  simp [IntKind.wrap, IntKind.bits, IntKind.signed]
  omega
theorem xOi {n : Nat} (hn : n < 256) : VC Tryd.prog 45 [.int .u8 n] [] (.str (keyM n)) [] := by
  have h1 : Int.tmod (n : Int) 4 = ((n % 4 : Nat) : Int) := tm n 4
  have hp := xLI (n % 4)
  have hq : bin .quo (.int .u8 (n : Int)) (.int .u8 4) = some (.int .u8 ((n / 4 : Nat) : Int)) := quoN (k := .u8) (n := n) (m := 4) rfl (by omega) (wrap8 (by omega))
  have h2 : Int.tmod ((n / 4 : Nat) : Int) 5 = ((n / 4 % 5 : Nat) : Int) := tm (n / 4) 5
  have hlt : n / 4 % 5 < 5 := Nat.mod_lt _ (by omega)
  have hx : (ends5.map fun s => [PV.str s])[((n / 4 % 5 : Nat) : Int).toNat]? = some [.str (endM (n / 4))] := by
    unfold endM ends5
    rw [Int.toNat_natCast]
    generalize n / 4 % 5 = m at hlt
    match m, hlt with
    | 0, _ => rfl
    | 1, _ => rfl
    | 2, _ => rfl
    | 3, _ => rfl
    | 4, _ => rfl
  have hl1 := (xC3 (xCd (n % 4))).1
  have hl2 : ∀ p ∈ ends5, p.length ≤ 3 := by decide
  have hl3 := hl2 _ (xOy (n / 4))
  refine vcs vf45 ?_
  repeat first|refine sgo ?_|refine xCE ?_|refine cv0 hp ?_|refine xCQ hq ?_|refine sop ?_
  exact xAC ⟨.inr rfl, oS rfl⟩
end Go.Proofs
open Go.V Go.Pu
set_option linter.unusedVariables false
set_option linter.unusedSimpArgs false
set_option maxRecDepth 20000
namespace Go.Proofs
def vc27 := vcm Tryd.prog 27
theorem vf27 : VF Tryd.prog 27 = some (102, vc27, [.cell true 8 2]) := by kernel_rfl
def vc9 := vcm Tryd.prog 9
theorem vf9 : VF Tryd.prog 9 = some (28, vc9, [.tmp 4]) := by kernel_rfl
theorem min_eq (a b : Str) : (if (Op.bytesLess a b || a == b) = true then a else b) = minS a b := by
  unfold minS
  rcases xBr a b with h | h | h
  · have := xBm h; simp [h, this]
  · subst h; simp [xAn]
  · have h1 := xBm h
    have h2 := xC5 h
    simp [h, h1, h2.symm]
set_option maxHeartbeats 4000000 in
theorem xSd {x : RawM} (hx : x.ok) : VC Tryd.prog 27 [.agg (encW x)] [] (.agg (encM (xAr x))) [] := by
  obtain ⟨x1, x2, x3, x4, x5, x6⟩ := hx
  have k1 := xOi x2
  have k2 := xOi x4
  have p1 := xLI x.b
  have p2 := xLI x.d
  have hl1 := (xC3 (xCd x.b)).1
  have hl2 := (xC3 (xCd x.d)).1
  have hk1 := xJY x.b
  have v1 := val_vc x.c
  have e1 : Int.tmod (x.e : Int) 4 = ((x.e % 4 : Nat) : Int) := tm x.e 4
  have e2 : Int.tmod (x.e : Int) 16 = ((x.e % 16 : Nat) : Int) := tm x.e 16
  have e3 : Int.tmod (x.f : Int) 8 = ((x.f % 8 : Nat) : Int) := tm x.f 8
  have e4 : Int.tmod (x.a : Int) 6 = ((x.a % 6 : Nat) : Int) := tm x.a 6
  have w3 : IntKind.i64.wrap ((x.f % 8 : Nat) : Int) = ((x.f % 8 : Nat) : Int) := xDE (by omega) (by omega)
  have pr := xCh (xA1 x.b) (by omega)
  have on := xLE (keyM x.b) (by omega)
  have b1 := xDU (xA1 x.b) (xA1 x.d) (by omega) (by omega)
  have b2 := xDU (xA1 x.d) (xA1 x.b) (by omega) (by omega)
  refine vcs vf27 ?_
  refine xA9 (rg ?_)
  repeat first|refine xAX ?_|refine sop ?_
  refine nl ?_
  refine xA9 (rg ?_)
  repeat first|refine xAX ?_|refine cv0 k1 ?_|refine cv0 k2 ?_|refine sop ?_
  refine nl ?_
  refine xA9 (rg ?_)
  repeat first|refine xAX ?_|refine sop ?_
  refine nl ?_
  refine xCA (lvl := 1) (fun (_ : Unit) => [(1, .ptr ⟨1, 0⟩ 1 0 0), (2, .ptr ⟨1, 8⟩ 1 0 0), (3, .str (keyM x.b)), (4, .str (keyM x.d)), (5, .ptr ⟨1, 16440⟩ 1 0 0)])
    (fun _ => [(⟨1, 0⟩, ⟨true, false, 6, [encW x]⟩), (⟨1, 8⟩, ⟨true, false, 8, [[.int .i64 0, .str [], .str [], .str [], .str [], .str [], .str [], .int .i64 0]]⟩), (⟨1, 16440⟩, ⟨true, false, 2, [encS (spM x)]⟩)]) (fun _ => True) ?_ ?_
  · by_cases h1 : x.e % 4 = 0
    · have g1 : (((x.e % 4 : Nat) : Int) == 0) = true := by rw [h1]; rfl
      have e : spM x = xAE (xA1 x.b) := by unfold spM; rw [if_pos h1]
      rw [e]
      repeat first|refine sgo ?_|refine xCE ?_|refine sop ?_
      refine cndt ?_
      repeat first|refine sgo ?_|refine cv0 p1 ?_|refine cv0 pr ?_|refine sop ?_
      exact ⟨(), trivial, xAT⟩
    have g1 : (((x.e % 4 : Nat) : Int) == 0) = false := by simp; omega
    by_cases h2 : x.e % 16 = 1
    · have g2 : (((x.e % 16 : Nat) : Int) == 1) = true := by rw [h2]; rfl
      have e : spM x = ⟨keyM x.b, []⟩ := by unfold spM; rw [if_neg h1, if_pos h2]
      rw [e]
      repeat first|refine sgo ?_|refine xCE ?_|refine sop ?_
      refine cndf ?_
      repeat first|refine sgo ?_|refine xCE ?_|refine sop ?_
      refine cndt ?_
      repeat first|refine sgo ?_|refine sop ?_
      exact ⟨(), trivial, xAT⟩
    have g2 : (((x.e % 16 : Nat) : Int) == 1) = false := by simp; omega
    by_cases h3 : x.e % 16 = 5
    · have g3 : (((x.e % 16 : Nat) : Int) == 5) = true := by rw [h3]; rfl
      have e : spM x = ⟨[], []⟩ := by unfold spM; rw [if_neg h1, if_neg h2, if_pos h3]
      rw [e]
      repeat first|refine sgo ?_|refine xCE ?_|refine sop ?_
      refine cndf ?_
      repeat first|refine sgo ?_|refine xCE ?_|refine sop ?_
      refine cndf ?_
      repeat first|refine sgo ?_|refine xCE ?_|refine sop ?_
      refine cndt ?_
      repeat first|refine sgo ?_|refine sop ?_
      exact ⟨(), trivial, xAT⟩
    have g3 : (((x.e % 16 : Nat) : Int) == 5) = false := by simp; omega
    by_cases h4 : keyM x.b = keyM x.d
    · have g4 : (keyM x.b == keyM x.d) = true := by rw [h4]; simp
      have e : spM x = oneL (keyM x.b) := by unfold spM; rw [if_neg h1, if_neg h2, if_neg h3, if_pos h4]
      rw [e]
      repeat first|refine sgo ?_|refine xCE ?_|refine sop ?_
      refine cndf ?_
      repeat first|refine sgo ?_|refine xCE ?_|refine sop ?_
      refine cndf ?_
      repeat first|refine sgo ?_|refine xCE ?_|refine sop ?_
      refine cndf ?_
      repeat first|refine sgo ?_|refine sop ?_
      refine cndt ?_
      repeat first|refine sgo ?_|refine cv0 on ?_|refine sop ?_
      exact ⟨(), trivial, xAT⟩
    · have g4 : (keyM x.b == keyM x.d) = false := by simpa using h4
      have e : spM x = ⟨minS (keyM x.b) (keyM x.d), maxL (keyM x.b) (keyM x.d)⟩ := by unfold spM; rw [if_neg h1, if_neg h2, if_neg h3, if_neg h4]
      rw [e, ← min_eq]
      repeat first|refine sgo ?_|refine xCE ?_|refine sop ?_
      refine cndf ?_
      repeat first|refine sgo ?_|refine xCE ?_|refine sop ?_
      refine cndf ?_
      repeat first|refine sgo ?_|refine xCE ?_|refine sop ?_
      refine cndf ?_
      repeat first|refine sgo ?_|refine sop ?_
      refine cndf (xAA ?_)
      exact ⟨(), trivial, xAT⟩
  intro _ _
  generalize hsp : spM x = sp
  refine xA9 (rg ?_)
  repeat first|refine xAX ?_|refine cv0 p1 ?_|refine cv0 p2 ?_|refine sop ?_
  refine nl ?_
  refine xCA (lvl := 1) (fun (_ : Unit) => [(1, .ptr ⟨1, 0⟩ 1 0 0), (2, .ptr ⟨1, 8⟩ 1 0 0), (3, .str (keyM x.b)), (5, .ptr ⟨1, 16440⟩ 1 0 0), (6, .str (xA1 x.b)), (7, .str (toM x))])
    (fun _ => [(⟨1, 0⟩, ⟨true, false, 6, [encW x]⟩), (⟨1, 8⟩, ⟨true, false, 8, [[.int .i64 0, .str [], .str [], .str [], .str [], .str [], .str [], .int .i64 0]]⟩), (⟨1, 16440⟩, ⟨true, false, 2, [encS sp]⟩)]) (fun _ => True) ?_ ?_
  · by_cases hA : xAD (xA1 x.b) (xA1 x.d) = true ∨ xAD (xA1 x.d) (xA1 x.b) = true
    · by_cases hB : xA1 x.b = [100, 47]
      · have g4 : (xA1 x.b == [100, 47]) = true := by rw [hB]; rfl
        have e : toM x = [99, 47] := by unfold toM; rw [if_pos hA, if_pos hB]
        rw [e]
        cases hb1 : xAD (xA1 x.b) (xA1 x.d) with
        | true =>
          rw [hb1] at b1
          repeat first|refine sgo ?_|refine cv0 b1 ?_|refine sop ?_
          refine cndt ?_
          repeat first|refine sgo ?_|refine sop ?_
          refine cndt ?_
          repeat first|refine sgo ?_|refine sop ?_
          exact ⟨(), trivial, xAT⟩
        | false =>
          rw [hb1] at b1
          rw [hA.resolve_left (by rw [hb1]; simp)] at b2
          repeat first|refine sgo ?_|refine cv0 b1 ?_|refine cv0 b2 ?_|refine sop ?_
          refine cndt ?_
          repeat first|refine sgo ?_|refine sop ?_
          refine cndt ?_
          repeat first|refine sgo ?_|refine sop ?_
          exact ⟨(), trivial, xAT⟩
      · have g4 : (xA1 x.b == [100, 47]) = false := by simpa using hB
        have e : toM x = [100, 47] := by unfold toM; rw [if_pos hA, if_neg hB]
        rw [e]
        cases hb1 : xAD (xA1 x.b) (xA1 x.d) with
        | true =>
          rw [hb1] at b1
          repeat first|refine sgo ?_|refine cv0 b1 ?_|refine sop ?_
          refine cndt ?_
          repeat first|refine sgo ?_|refine sop ?_
          refine cndf (xAA ?_)
          exact ⟨(), trivial, xAT⟩
        | false =>
          rw [hb1] at b1
          rw [hA.resolve_left (by rw [hb1]; simp)] at b2
          repeat first|refine sgo ?_|refine cv0 b1 ?_|refine cv0 b2 ?_|refine sop ?_
          refine cndt ?_
          repeat first|refine sgo ?_|refine sop ?_
          refine cndf (xAA ?_)
          exact ⟨(), trivial, xAT⟩
    · have e : toM x = xA1 x.d := by unfold toM; rw [if_neg hA]
      rw [e]
      have hb1 : xAD (xA1 x.b) (xA1 x.d) = false := by cases h : xAD (xA1 x.b) (xA1 x.d) with | false => rfl | true => exact (hA (.inl h)).elim
      have hb2 : xAD (xA1 x.d) (xA1 x.b) = false := by cases h : xAD (xA1 x.d) (xA1 x.b) with | false => rfl | true => exact (hA (.inr h)).elim
      rw [hb1] at b1
      rw [hb2] at b2
      repeat first|refine sgo ?_|refine cv0 b1 ?_|refine cv0 b2 ?_|refine sop ?_
      refine cndf (xAA ?_)
      exact ⟨(), trivial, xAT⟩
  intro _ _
  have h6 : x.a % 6 < 6 := Nat.mod_lt _ (by omega)
  by_cases c0 : x.a % 6 = 0
  · have g0 : (((x.a % 6 : Nat) : Int) == 0) = true := by rw [c0]; rfl
    have e : xAr x = ⟨1, keyM x.b, valM x.c, ⟨[], []⟩, [], [], (x.f % 8 : Nat)⟩ := by unfold xAr; rw [if_pos c0]
    rw [e]
    repeat first|refine sgo ?_|refine xCE ?_|refine xBb ?_|refine sop ?_
    refine cndt ?_
    repeat first|refine sgo ?_|refine cv0 v1 ?_|refine sop ?_
    exact xAC ⟨.inr rfl, oAny rfl⟩
  have g0 : (((x.a % 6 : Nat) : Int) == 0) = false := by simp; omega
  by_cases c1 : x.a % 6 = 1
  · have g1 : (((x.a % 6 : Nat) : Int) == 1) = true := by rw [c1]; rfl
    have e : xAr x = ⟨2, keyM x.b, [], ⟨[], []⟩, [], [], 0⟩ := by unfold xAr; rw [if_neg c0, if_pos c1]
    rw [e]
    repeat first|refine sgo ?_|refine xCE ?_|refine xBb ?_|refine sop ?_
    refine cndf ?_
    repeat first|refine sgo ?_|refine sop ?_
    refine cndt ?_
    repeat first|refine sgo ?_|refine sop ?_
    exact xAC ⟨.inr rfl, oAny rfl⟩
  have g1 : (((x.a % 6 : Nat) : Int) == 1) = false := by simp; omega
  by_cases c2 : x.a % 6 = 2
  · have g2 : (((x.a % 6 : Nat) : Int) == 2) = true := by rw [c2]; rfl
    have e : xAr x = ⟨3, [], [], sp, [], [], 0⟩ := by unfold xAr; rw [if_neg c0, if_neg c1, if_pos c2, hsp]
    rw [e]
    repeat first|refine sgo ?_|refine xCE ?_|refine xBb ?_|refine sop ?_
    refine cndf ?_
    repeat first|refine sgo ?_|refine sop ?_
    refine cndf ?_
    repeat first|refine sgo ?_|refine sop ?_
    refine cndt ?_
    repeat first|refine sgo ?_|refine sop ?_
    exact xAC ⟨.inr rfl, oAny rfl⟩
  have g2 : (((x.a % 6 : Nat) : Int) == 2) = false := by simp; omega
  by_cases c3 : x.a % 6 = 3
  · have g3 : (((x.a % 6 : Nat) : Int) == 3) = true := by rw [c3]; rfl
    have e : xAr x = ⟨4, [], [], ⟨[], []⟩, xA1 x.b, toM x, 0⟩ := by unfold xAr; rw [if_neg c0, if_neg c1, if_neg c2, if_pos c3]
    rw [e]
    repeat first|refine sgo ?_|refine xCE ?_|refine xBb ?_|refine sop ?_
    refine cndf ?_
    repeat first|refine sgo ?_|refine sop ?_
    refine cndf ?_
    repeat first|refine sgo ?_|refine sop ?_
    refine cndf ?_
    repeat first|refine sgo ?_|refine sop ?_
    refine cndt ?_
    repeat first|refine sgo ?_|refine sop ?_
    exact xAC ⟨.inr rfl, oAny rfl⟩
  have g3 : (((x.a % 6 : Nat) : Int) == 3) = false := by simp; omega
  by_cases c4 : x.a % 6 = 4
  · have g4 : (((x.a % 6 : Nat) : Int) == 4) = true := by rw [c4]; rfl
    have e : xAr x = ⟨5, [], [], ⟨[], []⟩, xA1 x.b, toM x, 0⟩ := by unfold xAr; rw [if_neg c0, if_neg c1, if_neg c2, if_neg c3, if_pos c4]
    rw [e]
    repeat first|refine sgo ?_|refine xCE ?_|refine xBb ?_|refine sop ?_
    refine cndf ?_
    repeat first|refine sgo ?_|refine sop ?_
    refine cndf ?_
    repeat first|refine sgo ?_|refine sop ?_
    refine cndf ?_
    repeat first|refine sgo ?_|refine sop ?_
    refine cndf ?_
    repeat first|refine sgo ?_|refine sop ?_
    refine cndt ?_
    repeat first|refine sgo ?_|refine sop ?_
    exact xAC ⟨.inr rfl, oAny rfl⟩
  have g4 : (((x.a % 6 : Nat) : Int) == 4) = false := by simp; omega
  have e : xAr x = ⟨6, [], [], sp, [], [], (x.f % 8 : Nat)⟩ := by unfold xAr; rw [if_neg c0, if_neg c1, if_neg c2, if_neg c3, if_neg c4, hsp]
  rw [e]
  repeat first|refine sgo ?_|refine xCE ?_|refine xBb ?_|refine sop ?_
  refine cndf ?_
  repeat first|refine sgo ?_|refine sop ?_
  refine cndf ?_
  repeat first|refine sgo ?_|refine sop ?_
  refine cndf ?_
  repeat first|refine sgo ?_|refine sop ?_
  refine cndf ?_
  repeat first|refine sgo ?_|refine sop ?_
  refine cndf (xAA ?_)
  repeat first|refine sgo ?_|refine sop ?_
  exact xAC ⟨.inr rfl, oAny rfl⟩
end Go.Proofs
open Go.V Go.Pu
set_option linter.unusedVariables false
set_option linter.unusedSimpArgs false
set_option maxRecDepth 20000
namespace Go.Proofs
theorem xKy : ∀ {l : List PV}, All2 PLe l l
  | [] => .nil
  | _ :: _ => .cons (PLe.refl _) xKy
theorem okW (l : List RawM) : okEls 6 (l.map encW) := okEls.map fun a => by simp [closed]
theorem okM (l : List MsgL) : okEls 8 (l.map encM) := okEls.map fun a => by simp [closed]
theorem xSf {l : List RawM} (hl : l.length ≤ 9223372036854775807) (hr : ∀ r ∈ l, r.ok) (n : Nat) (hn : n ≤ 1000) : VC Tryd.prog 9 [.sh false (l.map encW), .int .i64 n] [] (ownV ⟨0, 0⟩ ((xB5 l n).map encM)) [blkV 8 ((xB5 l n).map encM)] := by
  have hrl : (l.map encW).length = l.length := List.length_map _
  refine vcs vf9 ?_
  repeat first|refine sgo ?_|refine sop ?_
  refine xAH (fun (i : Nat) => [(0, .sh false (l.map encW)), (1, .int .i64 n), (5, ownV ⟨1, 8192⟩ (((l.take i).map xAr).map encM)), (6, .int .i64 i)]) (fun i => [(⟨1, 8192⟩, blkV 8 (((l.take i).map xAr).map encM))]) (fun i => l.length - i)
    (fun i => i ≤ l.length ∧ i ≤ n) 0 xAT ⟨Nat.zero_le _, Nat.zero_le _⟩ ?_
  rintro i ⟨hi, hin⟩
  by_cases hA : i < l.length
  · have g1 : decide ((i : Int) < (l.map encW).length) = true := by rw [hrl]; simp; omega
    obtain ⟨r, hx⟩ : ∃ y, l[i]? = some y := ⟨_, List.getElem?_eq_getElem hA⟩
    have hxe := gm (enc := encW) (n := (i : Int)) hx (by omega)
    have hlt2 : (i : Int) < ((l.map encW).length : Nat) := by rw [hrl]; omega
    have hm := xSd (hr r (List.mem_of_getElem? hx))
    have htk : (l.take (i + 1)).map xAr = (l.take i).map xAr ++ [xAr r] := by rw [List.take_add_one, hx]; simp
    by_cases hB : i < n
    · have g2 : decide ((i : Int) < (n : Int)) = true := by simp; omega
      have hlen : ((l.take i).map xAr).length ≤ 1000 := by rw [List.length_map, List.length_take]; omega
      repeat first|refine sgo ?_|refine sop ?_
      refine cndt (xAA ?_)
      repeat first|refine sgo ?_|refine cv0 hm ?_|refine o_v (vap encM (xAr r)) ?_|refine sop ?_
      refine agn (Q := fun _ _ => True) (i + 1) ⟨by omega, by omega⟩ ?_
      rw [htk]
      exact xAT
    · have g2 : decide ((i : Int) < (n : Int)) = false := by simp; omega
      have he : xB5 l n = (l.take i).map xAr := by rw [xB5, show i = n by omega]
      rw [he]
      repeat first|refine sgo ?_|refine sop ?_
      refine cndf (xAF ?_)
      repeat first|refine sgo ?_|refine sop ?_
      exact xAC ⟨.inr rfl, oOwn rfl⟩
  · have g1 : decide ((i : Int) < (l.map encW).length) = false := by rw [hrl]; simp; omega
    have he : xB5 l n = (l.take i).map xAr := by rw [xB5, List.take_of_length_le (by omega), List.take_of_length_le (by omega)]
    rw [he]
    repeat first|refine sgo ?_|refine sop ?_
    refine cndf (xAF ?_)
    repeat first|refine sgo ?_|refine sop ?_
    exact xAC ⟨.inr rfl, oOwn rfl⟩
structure MsgSz (m : MsgL) : Prop where
  k : 1 ≤ m.kind ∧ m.kind ≤ 6
  key : m.key.length ≤ 1000000
  fr : m.fr.length ≤ 1000000
  to : m.to.length ≤ 1000000
theorem MsgSz.of {m : MsgL} (h1 : MsgOk m) (h2 : MsgLen 8 m) : MsgSz m := ⟨h1.k, by have := h2.key; omega, by have := h2.fr; omega, by have := h2.to; omega⟩
theorem l_sp {hf : HF} {b : Bid} {l : List SpanL} (hb : hf b = some (blkV 2 (l.map encS))) : xCS hf [] (ownV b (l.map encS)) = some ([b], .sh false (l.map encS)) := xAV hb rfl
theorem xF1 {f : Nat} {args : List PV} {l : List SpanL} (h : VC Tryd.prog f args [] (ownV ⟨0, 0⟩ (l.map encS)) [blkV 2 (l.map encS)]) : VC Tryd.prog f args [] (.sh false (l.map encS)) [] := xGP h (xAV rfl rfl)
theorem vc_nlS {f : Nat} {args : List PV} (h : VC Tryd.prog f args [] .nils []) : VC Tryd.prog f args [] (.sh false (([] : List SpanL).map encS)) [] := xGj h xKy (PLe.sl (.inl ⟨rfl, rfl⟩))
theorem vifc {t lvl site : Nat} {tf : TF} {hf : HF} {x : VX} {cs : List PV} (hx : ev tf x = some (.agg cs) := by rfl) (hc : cs.all closed = true := by rfl) : vop lvl site tf hf (.mkifc t x) = some ⟨.ifc t cs, [], []⟩ := by
  simp only [vop, hx, Option.bind_some, if_pos hc]; rfl
theorem visn {t lvl site : Nat} {tf : TF} {hf : HF} {x : VX} {cs : List PV} (hx : ev tf x = some (.ifc t cs) := by rfl) : vop lvl site tf hf (.isnili true x) = some ⟨.bool true, [], []⟩ := by
  simp only [vop, hx, Option.bind_some]; rfl
theorem six {k : Int} (h : 1 ≤ k ∧ k ≤ 6) : k = 1 ∨ k = 2 ∨ k = 3 ∨ k = 4 ∨ k = 5 ∨ k = 6 := by omega
theorem disp_vc {f : Nat} {m : MsgL} {l : List SpanL} {g : Nat} (hm : 1 ≤ m.kind ∧ m.kind ≤ 6) : True := trivial
end Go.Proofs
open Go.V Go.Pu
set_option linter.unusedVariables false
set_option linter.unusedSimpArgs false
set_option maxRecDepth 20000
namespace Go.Proofs
def vc22 := vcm Tryd.prog 22
theorem vf22 : VF Tryd.prog 22 = some (18, vc22, [.tmp 4]) := by kernel_rfl
theorem halfS {n : Nat} : bin .shr (.int .u64 (n : Nat)) (.int .u64 1) = some (.int .u64 ((n / 2 : Nat) : Int)) := by
  show (if (1 : Int) < 0 then none else some (PV.int .u64 ((n : Int).fdiv (2 ^ (Int.toNat 1))))) = _
  rw [if_neg (by decide), Int.fdiv_eq_ediv_of_nonneg _ (by decide)]
  rfl
theorem noTupS {a b : PV} (ha : ∀ q, a ≠ .tup q) (hb : ∀ q, b ≠ .tup q) : ∀ vs, PV.tup [a, b] = .tup vs → ∀ p ∈ vs, ∀ q, p ≠ .tup q := by
  intro vs h p hp q
  cases h
  rcases List.mem_cons.1 hp with rfl | hp
  · exact ha q
  · rw [List.mem_singleton.1 hp]; exact hb q
theorem xQj {q : PV} {l : List SpanL} (k : Str) (hq : Sl q (l.map encS)) (hl : l.length ≤ maxLen) : VC Tryd.prog 22 [q, .str k] [] (.bool (inL l k)) [] := by
  refine vcs vf22 ?_
  unfold maxLen at hl
  repeat first|refine sgo ?_|refine sop ?_
  refine xAH (fun (g : Nat) => [(0, q), (1, .str k), (5, .int .i64 g)]) (fun g => []) (fun g => l.length - g)
    (fun g => g ≤ l.length ∧ (l.drop g).any (fun s => hasL s k) = inL l k) 0 goes ⟨Nat.zero_le _, rfl⟩ ?_
  rintro i ⟨hi, hv⟩
  (try dsimp only)
  repeat first|refine sgo ?_|refine sop ?_
  refine cnd (fun h => xAA ?_) (fun h => xAF ?_)
  · have hlt : i < l.length := by have h' := of_decide_eq_true h; simp only [List.length_map] at h'; omega
    obtain ⟨x, hx⟩ : ∃ x, l[i]? = some x := ⟨_, List.getElem?_eq_getElem hlt⟩
    have hxe := gm (enc := encS) (n := (i : Int)) hx (by omega)
    rw [xQ1 hx] at hv
    repeat first|refine sgo ?_|refine cv0 (xI9 x k) ?_|refine sop ?_
    refine cnd (fun h2 => ?_) (fun h2 => xAA ?_)
    · repeat first|refine sgo ?_|refine sop ?_
      refine xAC ⟨.inr rfl, oB ?_⟩
      rw [← hv, h2]; rfl
    · repeat first|refine sgo ?_|refine sop ?_
      refine agn (i + 1) ⟨by omega, ?_⟩ goes
      rw [← hv, h2]; rfl
  · have hge : i = l.length := by have h' := of_decide_eq_false h; simp only [List.length_map] at h'; omega
    subst hge
    repeat first|refine sgo ?_|refine sop ?_
    refine xAC ⟨.inr rfl, oB ?_⟩
    rw [List.drop_length] at hv
    exact hv
end Go.Proofs
