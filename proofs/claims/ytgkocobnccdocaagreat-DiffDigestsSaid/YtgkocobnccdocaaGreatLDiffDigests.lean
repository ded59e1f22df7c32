/- LDiffDigests -/
import Derived.Test.YtgkocobnccdocaaGreatBc
import Derived.Test.YtgkocobnccdocaaGreatPu
open Go.V Go.Pu
set_option linter.unusedVariables false
set_option linter.unusedSimpArgs false
set_option maxRecDepth 20000
namespace Go.Proofs
def vc6 := vcm Tryz.prog 6
theorem vf6 : VF Tryz.prog 6 = some (107, vc6, [.tmp 4]) := by kernel_rfl
theorem xUn {P : PairL → Prop} (l : List RawL) (n : Nat) (h : ∀ r, P (xKL r)) : ∀ p ∈ xBu l n, P p := by
  have key : ∀ (l t : List PairL), (∀ p ∈ l, P p) → (∀ p ∈ t, P p) → ∀ p ∈ l.foldl putL t, P p := by
    intro l
    induction l with
    | nil => intro t _ h; exact h
    | cons x l ih =>
      intro t h1 h
      refine ih _ (fun p hp => h1 p (by simp [hp])) (fun p hp => ?_)
      rw [xEg] at hp
      rcases xGC hp with rfl | hp
      · exact h1 p (by simp)
      · exact h p hp
  refine key _ _ (fun p hp => ?_) (by simp)
  obtain ⟨r, _, rfl⟩ := List.mem_map.1 hp
  exact h r
theorem vmaxE {lvl site : Nat} {tf : TF} {hf : HF} {x y : VX} {k : IntKind} {n m d : Int} (h : (if m > n then m else n) = d) (hx : ev tf x = some (.int k n) := by rfl) (hy : ev tf y = some (.int k m) := by rfl) : vop lvl site tf hf (.minmax true x y) = some ⟨.int k d, [], []⟩ := by
  simp [vop, hx, hy, retV, h]
theorem xor64 {s : Int} {d : Nat} (h0 : 0 ≤ s) (h1 : s < 256) (hd : d < 256) : bin .xor (.int .i64 s) (.int .i64 (d : Int)) = some (.int .i64 (((s.toNat ^^^ d : Nat)) : Int)) := by
  obtain ⟨n, rfl⟩ : ∃ n : Nat, s = n := ⟨s.toNat, by omega⟩
  show some (PV.int .i64 (IntKind.i64.wrap ((BitVec.ofInt 64 (n : Int) ^^^ BitVec.ofInt 64 (d : Int)).toNat : Int))) = _
  rw [BitVec.ofInt_natCast, BitVec.ofInt_natCast, BitVec.toNat_xor, BitVec.toNat_ofNat, BitVec.toNat_ofNat, Nat.mod_eq_of_lt (show n < 2 ^ 64 by omega), Nat.mod_eq_of_lt (show d < 2 ^ 64 by omega)]
  have : n ^^^ d < 2 ^ 8 := Nat.xor_lt_two_pow (by omega) (by omega)
  rw [xB0 (by omega) (by omega)]
  simp
theorem xor8 (x : UInt8) {d : Nat} (hd : d < 256) : bin .xor (.int .u8 (x.toNat : Int)) (.int .u8 (d : Int)) = some (.int .u8 ((x ^^^ UInt8.ofNat d).toNat : Int)) := by
  show some (PV.int .u8 (IntKind.u8.wrap ((BitVec.ofInt 8 (x.toNat : Int) ^^^ BitVec.ofInt 8 (d : Int)).toNat : Int))) = _
  have hx := x.toNat_lt
  rw [BitVec.ofInt_natCast, BitVec.ofInt_natCast, BitVec.toNat_xor, BitVec.toNat_ofNat, BitVec.toNat_ofNat, Nat.mod_eq_of_lt (show x.toNat < 2 ^ 8 by omega), Nat.mod_eq_of_lt (show d < 2 ^ 8 by omega), wu8]
  have : x.toNat ^^^ d < 2 ^ 8 := Nat.xor_lt_two_pow (by omega) (by omega)
  rw [Nat.mod_eq_of_lt (by omega), UInt8.toNat_xor, UInt8.toNat_ofNat', Nat.mod_eq_of_lt (show d < 2 ^ 8 by omega)]
theorem xJW {n : Nat} (h : n < 256) : numB n 8 = [0, 0, 0, 0, 0, 0, 0] ++ [UInt8.ofNat n] := by
  simp only [numB]
  have e : ∀ k, 8 ≤ k → n / 2 ^ k = 0 := fun k hk => Nat.div_eq_of_lt (Nat.lt_of_lt_of_le h (Nat.pow_le_pow_right (by decide : 0 < 2) hk))
  rw [e (8 * 7) (by decide), e (8 * 6) (by decide), e (8 * 5) (by decide), e (8 * 4) (by decide), e (8 * 3) (by decide), e (8 * 2) (by decide), e (8 * 1) (by decide)]
  simp
theorem xPY {t : List PairL} {i : Nat} {p : PairL} (h : t[i]? = some p) (h0 : 0 ≤ p.stamp) (h1 : p.stamp < 256) {d : Nat} (hd : d < 256) (hd0 : 0 < d) : xBb (t.set i { p with stamp := ((p.stamp.toNat ^^^ d : Nat) : Int) }) ≠ xBb t := by
  have hx : p.stamp.toNat ^^^ d < 2 ^ 8 := Nat.xor_lt_two_pow (by omega) (by omega)
  refine xJs h (a := numB p.key.length 4 ++ p.key ++ numB p.val.length 4 ++ p.val ++ [0, 0, 0, 0, 0, 0, 0]) (x := UInt8.ofNat p.stamp.toNat) (b := []) (y := UInt8.ofNat (p.stamp.toNat ^^^ d)) ?_ ?_ ?_
  · unfold serP
    rw [xJW (by omega)]
    simp [List.append_assoc]
  · unfold serP
    simp only [Int.toNat_natCast]
    rw [xJW (by omega)]
    simp [List.append_assoc]
  · intro e
    have := congrArg UInt8.toNat e
    rw [UInt8.toNat_ofNat', UInt8.toNat_ofNat', Nat.mod_eq_of_lt (by omega), Nat.mod_eq_of_lt (by omega)] at this
    have h2 := congrArg (fun z => p.stamp.toNat ^^^ z) this
    simp only [Nat.xor_self, ← Nat.xor_assoc, Nat.zero_xor] at h2
    omega
theorem xUc {t : List PairL} {i k : Nat} {p : PairL} {c : UInt8} (h : t[i]? = some p) (hc : p.val[k]? = some c) {d : Nat} (hd : d < 256) (hd0 : 0 < d) : xBb (t.set i { p with val := p.val.take k ++ [c ^^^ UInt8.ofNat d] ++ p.val.drop (k + 1) }) ≠ xBb t := by
  have hv : p.val = p.val.take k ++ c :: p.val.drop (k + 1) := by rw [← xAo hc, List.take_append_drop]
  have hl : (p.val.take k ++ [c ^^^ UInt8.ofNat d] ++ p.val.drop (k + 1)).length = p.val.length := by
    conv => rhs; rw [hv]
    simp
  refine xJs h (a := numB p.key.length 4 ++ p.key ++ numB p.val.length 4 ++ p.val.take k) (x := c) (b := p.val.drop (k + 1) ++ numB p.stamp.toNat 8) (y := c ^^^ UInt8.ofNat d) ?_ ?_ ?_
  · have e : p.val ++ numB p.stamp.toNat 8 = p.val.take k ++ c :: (p.val.drop (k + 1) ++ numB p.stamp.toNat 8) := by
      conv => lhs; rw [hv]
      simp
    unfold serP
    simp only [List.append_assoc, e]
  · unfold serP
    simp only [hl]
    simp [List.append_assoc]
  · intro e
    have h2 := congrArg (fun z => c ^^^ z) e
    simp only [UInt8.xor_self, ← UInt8.xor_assoc, UInt8.zero_xor] at h2
    have := congrArg UInt8.toNat h2
    rw [UInt8.toNat_ofNat', Nat.mod_eq_of_lt (by omega)] at this
    have e0 : (0 : UInt8).toNat = 0 := rfl
    omega
theorem vslT {lvl site : Nat} {tf : TF} {hf : HF} {x : VX} {hi : Option VX} {s : Str} (n : Nat) (hn : n ≤ s.length) (hx : ev tf x = some (.str s) := by rfl) (h1 : xAR tf s.length hi = some (n : Int) := by rfl) : vop lvl site tf hf (.slstr x none hi) = some ⟨.str (s.take n), [], []⟩ := by
  have e : vop lvl site tf hf (.slstr x none hi) = (xAR tf s.length hi).bind fun h => if (0 : Int) ≤ 0 ∧ 0 ≤ h ∧ h ≤ s.length then retV (.str ((s.drop (0 : Int).toNat).take (h.toNat - (0 : Int).toNat))) else none := by
    simp only [vop, hx, Option.bind_some]
    rfl
  rw [e, h1]
  simp only [Option.bind_some]
  rw [if_pos ⟨by omega, by omega, by omega⟩]
  simp [retV]
set_option maxHeartbeats 8000000 in
theorem xJL {xs : List RawL} {a b c : Nat} (ha : a < 256) (hb : b < 256) (hc : c < 256) : VC Tryz.prog 6 [.sh false (xs.map encR), .agg [.int .u8 a, .int .u8 b, .int .u8 c]] [] (.bool true) [] := by
  have h11 := xLH
  have ta := xKA (xs := xs) 12 (by omega)
  have la := xHp xs 12
  have ka := xHq xs 12
  have kv := xUn (P := fun p => p.val.length ≤ 10 ∧ 0 ≤ p.stamp ∧ p.stamp < 8) xs 12 fun r => ⟨xPL r.y, by simp only [xKL]; omega, by simp only [xKL]; omega⟩
  generalize xBu xs 12 = t at *
  have hdg : ∀ (i : Nat) (q : PairL), q.key.length ≤ 8 → q.val.length ≤ 10 → 0 ≤ q.stamp → q.stamp < 256 → DgOk (t.set i q) := fun i q h1 h2 h3 h4 => ⟨by rw [List.length_set]; omega, fun p hp => by
    rcases List.mem_or_eq_of_mem_set hp with hp | rfl
    · have := ka p hp; have := kv p hp; omega
    · omega⟩
  have hD : DgOk t := ⟨by omega, fun p hp => by have := ka p hp; have := kv p hp; omega⟩
  have d1 := xGM hD
  have d2 := xOj hD
  have g1 : (xBb t != xBb t) = false := by simp
  have g1' : (xBb t == xBb t) = true := by simp
  have mt : (t.map encP).length = t.length := List.length_map _
  refine vcs vf6 ?_
  refine xAb (rg ?_)
  repeat first|refine xAP ?_|refine sop ?_
  refine nl ?_
  refine xAb (rg ?_)
  repeat first|refine xAP ?_|refine cv0 h11 ?_|refine sop ?_
  refine nl ?_
  refine xAb (rg ?_)
  repeat first|refine xAP ?_|refine cf ta ?_|refine sop ?_
  refine nl ?_
  repeat first|refine sgo ?_|refine cv0 d1 ?_|refine cv0 d2 ?_|refine cf ta ?_|refine sop ?_
  refine cndf (xAB ?_)
  repeat first|refine sgo ?_|refine sop ?_
  by_cases h0 : t = []
  · subst h0
    refine cndt ?_
    repeat first|refine sgo ?_|refine sop ?_
    exact xAC ⟨.inr rfl, oB rfl⟩
  · have hl0 : 0 < t.length := List.length_pos_iff.2 h0
    have g2 : (((t.map encP).length : Int) == 0) = false := by rw [mt]; simp; omega
    refine cndf (xAB ?_)
    obtain ⟨i, hi⟩ : ∃ i, i = a % t.length := ⟨_, rfl⟩
    have hil : i < t.length := by rw [hi]; exact Nat.mod_lt _ hl0
    have hrem : Int.tmod (a : Int) ((t.map encP).length : Int) = (i : Int) := by rw [mt, hi]; exact tm a t.length
    have hrz : ((t.map encP).length : Int) ≠ 0 := by rw [mt]; omega
    have hca : IntKind.i64.wrap (a : Int) = (a : Int) := xB0 (by omega) (by omega)
    obtain ⟨d, hd⟩ : ∃ d, d = max c 1 := ⟨_, rfl⟩
    have hd1 : 0 < d := by rw [hd]; omega
    have hd2 : d < 256 := by rw [hd]; omega
    have hmx : (if (1 : Int) > (c : Int) then (1 : Int) else (c : Int)) = (d : Int) := by rw [hd]; split <;> omega
    have hcd : IntKind.i64.wrap (d : Int) = (d : Int) := xB0 (by omega) (by omega)
    obtain ⟨p, hp⟩ : ∃ p, t[i]? = some p := ⟨_, List.getElem?_eq_getElem hil⟩
    have hpe := gm (enc := encP) (n := (i : Int)) hp (by omega)
    have hpm := List.mem_of_getElem? hp
    have hpk := ka p hpm
    have hpv := kv p hpm
    have hX := xor64 (s := p.stamp) (d := d) hpv.2.1 (by omega) hd2
    have hx8 : p.stamp.toNat ^^^ d < 2 ^ 8 := Nat.xor_lt_two_pow (by omega) (by omega)
    have hq := hdg i { p with stamp := ((p.stamp.toNat ^^^ d : Nat) : Int) } hpk hpv.1 (by simp only; omega) (by simp only; omega)
    have d3 := xGM hq
    have hne := xPY hp hpv.2.1 (by omega) hd2 hd1
    have hiT : (i : Int).toNat = i := by omega
    have hlt2 : (i : Int) < ((t.map encP).length : Nat) := by omega
    have hpi : t[((i : Int)).toNat]? = some p := by rw [hiT]; exact hp
    have hs1 : t.set ((i : Int)).toNat { p with stamp := ((p.stamp.toNat ^^^ d : Nat) : Int) } = t.set i { p with stamp := ((p.stamp.toNat ^^^ d : Nat) : Int) } := by rw [hiT]
    have g3 : (xBb (t.set i { p with stamp := ((p.stamp.toNat ^^^ d : Nat) : Int) }) == xBb t) = false := by simpa using hne
    generalize xBb (t.set i { p with stamp := ((p.stamp.toNat ^^^ d : Nat) : Int) }) = D1 at *
    refine xAb (rg ?_)
    repeat first|refine xAP ?_|refine xBN ?_|refine xOn ?_|refine sop ?_
    refine nl ?_
    refine xAb (rg ?_)
    repeat first|refine xAP ?_|refine o_v0 (vmaxE hmx) ?_|refine sop ?_
    refine nl ?_
    refine xAb (rg ?_)
    repeat first|refine xAP ?_|refine o_v (vaps encP [] t) ?_|refine sop ?_
    refine nl ?_
    refine xAb (rg ?_)
    repeat first|refine xAP ?_|refine xBN ?_|refine xBE hX ?_|refine o_v (vstf encP ({ p with stamp := ((p.stamp.toNat ^^^ d : Nat) : Int) } : PairL) hpi) ?_|refine sop ?_
    refine nl ?_
    rw [hs1]
    repeat first|refine sgo ?_|refine cf d3 ?_|refine cv0 d1 ?_|refine sop ?_
    refine cndf (xAB ?_)
    repeat first|refine sgo ?_|refine sop ?_
    by_cases hv0 : p.val = []
    · have g4 : (p.val == []) = true := by simp [hv0]
      refine cndt ?_
      repeat first|refine sgo ?_|refine sop ?_
      exact xAC ⟨.inr rfl, oB rfl⟩
    · have g4 : (p.val == []) = false := by simpa using hv0
      refine cndf (xAB ?_)
      have hvl : 0 < p.val.length := List.length_pos_iff.2 hv0
      obtain ⟨k, hk⟩ : ∃ k, k = b % p.val.length := ⟨_, rfl⟩
      have hkl : k < p.val.length := by rw [hk]; exact Nat.mod_lt _ hvl
      have hrem2 : Int.tmod (b : Int) (p.val.length : Int) = (k : Int) := by rw [hk]; exact tm b p.val.length
      have hrz2 : (p.val.length : Int) ≠ 0 := by omega
      have hcb : IntKind.i64.wrap (b : Int) = (b : Int) := xB0 (by omega) (by omega)
      obtain ⟨z, hz⟩ : ∃ z, p.val[k]? = some z := ⟨_, List.getElem?_eq_getElem hkl⟩
      have hzk : p.val[((k : Int)).toNat]? = some z := by rw [show ((k : Int)).toNat = k by omega]; exact hz
      have hX8 := xor8 z hd2
      have hvl2 : (p.val.take k ++ [z ^^^ UInt8.ofNat d] ++ p.val.drop (k + 1)).length = p.val.length := by
        simp only [List.length_append, List.length_take, List.length_drop, List.length_cons, List.length_nil]; omega
      have hq2 := hdg i { p with val := p.val.take k ++ [z ^^^ UInt8.ofNat d] ++ p.val.drop (k + 1) } hpk (by simp only; omega) hpv.2.1 (by simp only; omega)
      have d4 := xGM hq2
      have hne2 := xUc hp hz hd2 hd1
      have hs2 : t.set ((i : Int)).toNat { p with val := p.val.take k ++ [z ^^^ UInt8.ofNat d] ++ p.val.drop (k + 1) } = t.set i { p with val := p.val.take k ++ [z ^^^ UInt8.ofNat d] ++ p.val.drop (k + 1) } := by rw [hiT]
      have g5 : (xBb (t.set i { p with val := p.val.take k ++ [z ^^^ UInt8.ofNat d] ++ p.val.drop (k + 1) }) != xBb t) = true := by simpa using hne2
      generalize xBb (t.set i { p with val := p.val.take k ++ [z ^^^ UInt8.ofNat d] ++ p.val.drop (k + 1) }) = D2 at *
      refine xAb (rg ?_)
      repeat first|refine xAP ?_|refine xBN ?_|refine xOn ?_|refine sop ?_
      refine nl ?_
      refine xAb (rg ?_)
      repeat first|refine xAP ?_|refine o_v0 (vslT (s := p.val) k (by omega)) ?_|refine xBE hX8 ?_|refine xQa (s := [z ^^^ UInt8.ofNat d]) rfl ?_|refine o_v0 (vslD (s := p.val) (k + 1) (by omega)) ?_|refine o_v (vstf encP ({ p with val := p.val.take k ++ [z ^^^ UInt8.ofNat d] ++ p.val.drop (k + 1) } : PairL) hpi) ?_|refine sop ?_
      refine nl ?_
      rw [hs2]
      repeat first|refine sgo ?_|refine cf d4 ?_|refine cv0 d1 ?_|refine sop ?_
      exact xAC ⟨.inr rfl, oB rfl⟩
theorem decR2 {l : List (List PV)} (h : InTy (.sl [.int .u8, .int .u8, .int .u8]) (.sh false l)) : ∃ xs : List RawL, l = xs.map encR ∧ xs.length ≤ maxLen := xKp h fun e hl hc => by
  obtain ⟨a, b, c, rfl⟩ := xVm hl
  obtain ⟨x, rfl, hx⟩ := xKh (hc 0 _ _ rfl rfl)
  obtain ⟨y, rfl, hy⟩ := xKh (hc 1 _ _ rfl rfl)
  obtain ⟨z, rfl, hz⟩ := xKh (hc 2 _ _ rfl rfl)
  exact ⟨⟨x, y, z, hx, hy, hz⟩, rfl⟩
theorem diffDigests_in (l : List (List PV)) (il : InTy (.sl [.int .u8, .int .u8, .int .u8]) (.sh false l)) (q : List PV) (n : q.length = [CTy.int .u8, .int .u8, .int .u8].length) (i : ∀ (j : Nat) (c : CTy) (p : PV), [CTy.int .u8, .int .u8, .int .u8][j]? = some c → q[j]? = some p → InTy c p) : VC Tryz.prog 6 [.sh false l, .agg q] [] (.bool true) [] := by
  obtain ⟨xs, rfl, _⟩ := decR2 il
  obtain ⟨a, b, c, rfl⟩ := xVm n
  obtain ⟨x, rfl, hx⟩ := xKh (i 0 _ _ rfl rfl)
  obtain ⟨y, rfl, hy⟩ := xKh (i 1 _ _ rfl rfl)
  obtain ⟨z, rfl, hz⟩ := xKh (i 2 _ _ rfl rfl)
  exact xJL hx hy hz
end Go.Proofs
