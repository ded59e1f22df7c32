/- Sb -/
import Derived.Test.YtgkocobnccdocaaGreatSa
import Derived.Test.YtgkocobnccdocaaGreatPu
open Go.V Go.Pu
set_option linter.unusedVariables false
set_option linter.unusedSimpArgs false
set_option maxRecDepth 20000
namespace Go.Proofs
def vc199 := vcm Tryz.prog 199
theorem vf199 : VF Tryz.prog 199 = some (67, vc199, []) := by kernel_rfl
def vc225 := vcm Tryz.prog 225
theorem vf225 : VF Tryz.prog 225 = some (32, vc225, [.tmp 10, .tmp 11]) := by kernel_rfl
def vc219 := vcm Tryz.prog 219
theorem vf219 : VF Tryz.prog 219 = some (41, vc219, [.tmp 12]) := by kernel_rfl
def vc218 := vcm Tryz.prog 218
theorem vf218 : VF Tryz.prog 218 = some (18, vc218, [.tmp 8]) := by kernel_rfl
def vc200 := vcm Tryz.prog 200
theorem vf200 : VF Tryz.prog 200 = some (63, vc200, [.tmp 8, .tmp 9]) := by kernel_rfl
def vc201 := vcm Tryz.prog 201
theorem vf201 : VF Tryz.prog 201 = some (34, vc201, []) := by kernel_rfl
theorem xUp {m : Nat} (h : 1 ≤ m) (h2 : m < 18446744073709551616) : bin .sub (.int .u64 (m : Nat)) (.int .u64 1) = some (.int .u64 ((m - 1 : Nat) : Int)) := by
  show some (PV.int .u64 (IntKind.u64.wrap ((m : Int) - 1))) = _
  rw [show (m : Int) - 1 = ((m - 1 : Nat) : Int) by omega, xHk (by omega)]
theorem xNc {m : Nat} (h : m < 18446744073709551616) : (BitVec.ofInt 64 (m : Int)).toNat = m := by
  rw [BitVec.toNat_ofInt]
  have h : (m : Int) % ((2 ^ 64 : Nat) : Int) = (m : Int) := Int.emod_eq_of_lt (by omega) (by omega)
  rw [h]; rfl
theorem xWF {r m : Nat} (hr : r < 18446744073709551616) (h : m < 18446744073709551616) : bin .and (.int .u64 (r : Nat)) (.int .u64 (m : Nat)) = some (.int .u64 ((r &&& m : Nat) : Int)) := by
  show some (PV.int .u64 (IntKind.u64.wrap (BitVec.ofInt 64 r &&& BitVec.ofInt 64 m).toNat)) = _
  rw [BitVec.toNat_and, xNc hr, xNc h, xHk (Nat.lt_of_le_of_lt Nat.and_le_right h)]
def bpIt (d : Array SpanL) (a l m i : Nat) : Nat → UInt64 × Array SpanL
  | 0 => (UInt64.ofNat l, d)
  | k + 1 => Sort.breakStep a l m (bpIt d a l m i k) (i + k)
set_option maxHeartbeats 2000000 in
theorem xTl {N n : Nat} (xs : List SpanL) (a b : Nat) (hN : xs.length = N) (hab : a ≤ b) (hb : b ≤ n) (hn : n ≤ N) (hm : N ≤ 60000) :
    VC Tryz.prog 199 [.own ⟨0, 0⟩ N 0 n, .int .i64 a, .int .i64 b, .fn 136 []] [blkV 2 (xs.map encS)] (.tup []) (srt (Sort.breakPatterns xs.toArray a b)) := by
  refine xBV vf199 ?_ (Nat.le_of_ble_eq_true rfl) (by intro vs h; cases h; simp)
  by_cases h8 : b - a ≥ 8
  case neg =>
    repeat first|refine sgo ?_|refine sop ?_
    refine cndf (xAB ?_) rfl (decide_eq_false (by omega))
    refine ⟨.inl rfl, oL1 ?_⟩
    unfold Sort.breakPatterns
    simp only
    rw [if_neg h8]
  have hh : (b : Int) - a = ((b - a : Nat) : Int) := by omega
  have hcu : IntKind.u64.wrap ((b : Int) - a) = ((UInt64.ofNat (b - a)).toNat : Int) := by
    rw [hh, xHk (by omega), UInt64.toNat_ofNat']
    omega
  have hq := xKG (k := .i64) (n := b - a) (m := 4) (z := (b : Int) - a) (by omega) (by omega) (xB0 (by omega) (by omega))
  have hc := xVa (n := b - a) (by omega)
  rw [← hh] at hc
  have hp := Sort.two_pow_bitsLen_le (n := b - a) (by omega)
  rw [← Nat.one_shiftLeft] at hp
  have hpos : 0 < 1 <<< Sort.bitsLen (b - a) := by rw [Nat.one_shiftLeft]; exact Nat.two_pow_pos _
  have htar : Sort.breakPatterns xs.toArray a b = (bpIt xs.toArray a (b - a) (1 <<< Sort.bitsLen (b - a)) (a + (b - a) / 4 * 2 - 1) 3).2 := by
    unfold Sort.breakPatterns
    simp only
    rw [if_pos h8]
    rfl
  rw [htar]
  generalize 1 <<< Sort.bitsLen (b - a) = M at hc hp hpos
  repeat first|refine sgo ?_|refine sop ?_
  refine cndt ?_ rfl (decide_eq_true (by omega))
  repeat first|refine sgo ?_|refine xBN ?_|refine cv0 hc ?_|refine xBE hq ?_|refine sop ?_
  refine xAE (fun (g : Nat × UInt64 × List SpanL) => [(0, .own ⟨0, 0⟩ N 0 n), (1, .int .i64 a), (8, .int .i64 ((b : Int) - a)), (9, .ptr ⟨1, 16400⟩ 1 0 0), (10, .int .u64 (M : Nat)), (11, .int .i64 ((a : Int) + (((b - a) / 4 : Nat) : Int) * 2 - 1 + (g.1 : Nat)))])
    (fun g => [(⟨0, 0⟩, blkV 2 (g.2.2.map encS)), (⟨1, 16400⟩, ⟨true, false, 1, [[.int .u64 g.2.1.toNat]]⟩)]) (fun g => 3 - g.1)
    (fun g => g.1 ≤ 3 ∧ g.2.2.length = N ∧ (g.2.1, g.2.2.toArray) = bpIt xs.toArray a (b - a) M (a + (b - a) / 4 * 2 - 1) g.1) (0, UInt64.ofNat (b - a), xs)
    (goes (h1 := by refine ⟨rfl, rfl, rfl, rfl, rfl, congrArg (fun z => some (PV.int .i64 z)) (by omega), trivial⟩)) ⟨by omega, hN, rfl⟩ ?_
  rintro ⟨k, r, ys⟩ ⟨hk, hyl, hv⟩
  dsimp only at hk hyl hv ⊢
  repeat first|refine sgo ?_|refine xBE hq ?_|refine sop ?_
  by_cases hk3 : k < 3
  · refine cndt (xAB ?_) rfl (decide_eq_true (by omega))
    have b1 := xUp (m := M) hpos (by omega)
    have b2 := xWF (r := (Sort.xorNext r).toNat) (m := M - 1) (Sort.xorNext r).toNat_lt (by omega)
    have hle : (Sort.xorNext r).toNat &&& (M - 1) ≤ M - 1 := Nat.and_le_right
    have hstep : bpIt xs.toArray a (b - a) M (a + (b - a) / 4 * 2 - 1) (k + 1) = (Sort.xorNext r, Sort.swp ys.toArray (a + (b - a) / 4 * 2 - 1 + k) (a + if (Sort.xorNext r).toNat &&& (M - 1) ≥ b - a then ((Sort.xorNext r).toNat &&& (M - 1)) - (b - a) else (Sort.xorNext r).toNat &&& (M - 1))) := by
      rw [bpIt, ← hv]; rfl
    generalize (Sort.xorNext r).toNat &&& (M - 1) = o at hle b2 hstep
    have hci : IntKind.i64.wrap (o : Int) = o := xB0 (by omega) (by omega)
    repeat first|refine sgo ?_|refine cl (lent := [⟨1, 16400⟩]) (xVc r) ?_|refine xBE b1 ?_|refine xBE b2 ?_|refine xBN ?_|refine sop ?_
    have hk1 : 0 + ((a : Int) + (((b - a) / 4 : Nat) : Int) * 2 - 1 + (k : Nat)).toNat = a + (b - a) / 4 * 2 - 1 + k := by omega
    obtain ⟨x, hx⟩ : ∃ x, ys[a + (b - a) / 4 * 2 - 1 + k]? = some x := ⟨_, List.getElem?_eq_getElem (by omega)⟩
    have hx' := xAe hx hk1
    by_cases ho : o ≥ b - a
    · obtain ⟨y, hy⟩ : ∃ y, ys[a + (o - (b - a))]? = some y := ⟨_, List.getElem?_eq_getElem (by omega)⟩
      have hk2 : 0 + ((a : Int) + ((o : Int) - ((b : Int) - a))).toNat = a + (o - (b - a)) := by omega
      have hy' := xAe hy hk2
      rw [if_pos ho, xCK hx hy, ← hk1, ← hk2] at hstep
      refine cndt ?_ rfl (decide_eq_true (by omega))
      repeat first|refine sgo ?_|refine xAJ ?_|refine o_v (vst encS y) ?_|refine o_v (vst encS x) ?_|refine sop ?_
      exact agn (k + 1, Sort.xorNext r, _) ⟨by simp only; omega, by simpa only [List.length_set] using hyl, hstep.symm⟩
        (goes (h1 := by refine ⟨rfl, rfl, rfl, rfl, rfl, congrArg (fun z => some (PV.int .i64 z)) (by omega), trivial⟩))
    · obtain ⟨y, hy⟩ : ∃ y, ys[a + o]? = some y := ⟨_, List.getElem?_eq_getElem (by omega)⟩
      have hk2 : 0 + ((a : Int) + (o : Int)).toNat = a + o := by omega
      have hy' := xAe hy hk2
      rw [if_neg ho, xCK hx hy, ← hk1, ← hk2] at hstep
      refine cndf (xAB ?_) rfl (decide_eq_false (by omega))
      repeat first|refine sgo ?_|refine xAJ ?_|refine o_v (vst encS y) ?_|refine o_v (vst encS x) ?_|refine sop ?_
      exact agn (k + 1, Sort.xorNext r, _) ⟨by simp only; omega, by simpa only [List.length_set] using hyl, hstep.symm⟩
        (goes (h1 := by refine ⟨rfl, rfl, rfl, rfl, rfl, congrArg (fun z => some (PV.int .i64 z)) (by omega), trivial⟩))
  · obtain rfl : k = 3 := by omega
    refine cndf (xAD ?_) rfl (decide_eq_false (by omega))
    exact ⟨.inl rfl, oL1 (by rw [← hv])⟩
abbrev bxI (s : Nat) : Blk := ⟨true, false, 1, [[.int .i64 (s : Nat)]]⟩
theorem xH6 {N n : Nat} (xs : List SpanL) (a b s : Nat) (hN : xs.length = N) (ha : a < n) (hb : b < n) (hn : n ≤ N) (hm : N ≤ 60000) (hs : s ≤ 1000) :
    VC Tryz.prog 225 [.own ⟨0, 0⟩ N 0 n, .int .i64 a, .int .i64 b, .ptr ⟨0, 1⟩ 1 0 0, .fn 136 []] [blkV 2 (xs.map encS), bxI s]
      (.tup [.int .i64 (Sort.order2 ltS xs.toArray a b s).1, .int .i64 (Sort.order2 ltS xs.toArray a b s).2.1]) [blkV 2 (xs.map encS), bxI (Sort.order2 ltS xs.toArray a b s).2.2] := by
  refine xBV vf225 ?_ (Nat.le_of_ble_eq_true rfl) (by intro vs h; cases h; simp)
  obtain ⟨x, hx⟩ : ∃ x, xs[b]? = some x := ⟨_, List.getElem?_eq_getElem (by omega)⟩
  obtain ⟨y, hy⟩ : ∃ y, xs[a]? = some y := ⟨_, List.getElem?_eq_getElem (by omega)⟩
  have hx' := xAe (k := 0 + (b : Int).toNat) hx (by omega)
  have hy' := xAe (k := 0 + (a : Int).toNat) hy (by omega)
  have hr : Sort.order2 ltS xs.toArray a b s = if ltS x y = true then (b, a, s + 1) else (a, b, s) := by unfold Sort.order2; rw [gb hx, gb hy]
  repeat first|refine sgo ?_|refine xAJ ?_|refine cv0 (xB5 x y) ?_|refine sop ?_
  refine cnd (fun h => ?_) (fun h => xAB ?_)
  · rw [hr, if_pos (show ltS x y = true from h)]
    repeat first|refine sgo ?_|refine sop ?_
    exact xAC ⟨.inr rfl, oX2 rfl rfl⟩
  · rw [hr, if_neg (show ¬ ltS x y = true by simpa [ltS] using h)]
    repeat first|refine sgo ?_|refine sop ?_
    exact xAC ⟨.inr rfl, oX2 rfl rfl⟩
theorem xEi {α : Type} [Inhabited α] {lt : α → α → Bool} {d : Array α} {a b s n : Nat} (ha : a < n) (hb : b < n) : (Sort.order2 lt d a b s).1 < n ∧ (Sort.order2 lt d a b s).2.1 < n ∧ (Sort.order2 lt d a b s).2.2 ≤ s + 1 := by
  unfold Sort.order2
  split <;> (simp; omega)
theorem xID {N n : Nat} (xs : List SpanL) (a b c s : Nat) (hN : xs.length = N) (ha : a < n) (hb : b < n) (hc : c < n) (hn : n ≤ N) (hm : N ≤ 60000) (hs : s ≤ 900) :
    VC Tryz.prog 219 [.own ⟨0, 0⟩ N 0 n, .int .i64 a, .int .i64 b, .int .i64 c, .ptr ⟨0, 1⟩ 1 0 0, .fn 136 []] [blkV 2 (xs.map encS), bxI s]
      (.int .i64 (Sort.median ltS xs.toArray a b c s).1) [blkV 2 (xs.map encS), bxI (Sort.median ltS xs.toArray a b c s).2] := by
  refine vcs vf219 ?_
  unfold Sort.median
  simp only
  obtain ⟨b1, b2, b3⟩ := xEi (lt := ltS) (d := xs.toArray) (s := s) ha hb
  have v1 := xH6 xs a b s hN ha hb hn hm (by omega)
  generalize Sort.order2 ltS xs.toArray a b s = r1 at *
  obtain ⟨c1, c2, c3⟩ := xEi (lt := ltS) (d := xs.toArray) (s := r1.2.2) b2 hc
  have v2 := xH6 xs r1.2.1 c r1.2.2 hN b2 hc hn hm (by omega)
  generalize Sort.order2 ltS xs.toArray r1.2.1 c r1.2.2 = r2 at *
  have v3 := xH6 xs r1.1 r2.1 r2.2.2 hN b1 c1 hn hm (by omega)
  generalize Sort.order2 ltS xs.toArray r1.1 r2.1 r2.2.2 = r3 at *
  repeat first|refine sgo ?_|refine cl (lent := [⟨0, 0⟩, ⟨0, 1⟩]) v1 ?_|refine cl (lent := [⟨0, 0⟩, ⟨0, 1⟩]) v2 ?_|refine cl (lent := [⟨0, 0⟩, ⟨0, 1⟩]) v3 ?_|refine sop ?_
  exact xAC ⟨.inr rfl, oX2 rfl rfl⟩
theorem xIE {α : Type} [Inhabited α] {lt : α → α → Bool} {d : Array α} {a b c s n : Nat} (ha : a < n) (hb : b < n) (hc : c < n) : (Sort.median lt d a b c s).1 < n ∧ (Sort.median lt d a b c s).2 ≤ s + 3 := by
  unfold Sort.median
  simp only
  obtain ⟨b1, b2, b3⟩ := xEi (lt := lt) (d := d) (s := s) ha hb
  generalize Sort.order2 lt d a b s = r1 at *
  obtain ⟨c1, c2, c3⟩ := xEi (lt := lt) (d := d) (s := r1.2.2) b2 hc
  generalize Sort.order2 lt d r1.2.1 c r1.2.2 = r2 at *
  obtain ⟨d1, d2, d3⟩ := xEi (lt := lt) (d := d) (s := r2.2.2) b1 c1
  exact ⟨d2, by omega⟩
theorem xIF {N n : Nat} (xs : List SpanL) (a s : Nat) (hN : xs.length = N) (h1 : 1 ≤ a) (ha : a + 1 < n) (hn : n ≤ N) (hm : N ≤ 60000) (hs : s ≤ 900) :
    VC Tryz.prog 218 [.own ⟨0, 0⟩ N 0 n, .int .i64 a, .ptr ⟨0, 1⟩ 1 0 0, .fn 136 []] [blkV 2 (xs.map encS), bxI s]
      (.int .i64 (Sort.medianAdjacent ltS xs.toArray a s).1) [blkV 2 (xs.map encS), bxI (Sort.medianAdjacent ltS xs.toArray a s).2] := by
  refine vcs vf218 ?_
  unfold Sort.medianAdjacent
  have v1 := xID xs (a - 1) a (a + 1) s hN (by omega) (by omega) ha hn hm hs
  rw [show ((a - 1 : Nat) : Int) = (a : Int) - 1 by omega] at v1
  repeat first|refine sgo ?_|refine cl (lent := [⟨0, 0⟩, ⟨0, 1⟩]) v1 ?_|refine sop ?_
  exact xAC ⟨.inr rfl, oX2 rfl rfl⟩
def hintI : Sort.Hint → Nat
  | .unknown => 0
  | .increasing => 1
  | .decreasing => 2
set_option maxHeartbeats 1000000 in
theorem xRl {N n : Nat} (xs : List SpanL) (a b : Nat) (hN : xs.length = N) (hl : a + 13 ≤ b) (hb : b ≤ n) (hn : n ≤ N) (hm : N ≤ 60000) :
    VC Tryz.prog 200 [.own ⟨0, 0⟩ N 0 n, .int .i64 a, .int .i64 b, .fn 136 []] [blkV 2 (xs.map encS)]
      (.tup [.int .i64 (Sort.choosePivot ltS xs.toArray a b).1, .int .i64 (hintI (Sort.choosePivot ltS xs.toArray a b).2)]) [blkV 2 (xs.map encS)] := by
  refine xBV vf200 ?_ (Nat.le_of_ble_eq_true rfl) (by intro vs h; cases h; simp)
  have hq := xKG (k := .i64) (n := b - a) (m := 4) (z := (b : Int) - a) (by omega) (by omega) (xB0 (by omega) (by omega))
  have ei : ((a + (b - a) / 4 * 1 : Nat) : Int) = (a : Int) + (((b - a) / 4 : Nat) : Int) * 1 := by omega
  have ej : ((a + (b - a) / 4 * 2 : Nat) : Int) = (a : Int) + (((b - a) / 4 : Nat) : Int) * 2 := by omega
  have ek : ((a + (b - a) / 4 * 3 : Nat) : Int) = (a : Int) + (((b - a) / 4 : Nat) : Int) * 3 := by omega
  unfold Sort.choosePivot
  simp only
  rw [if_pos (show b - a ≥ 8 by omega)]
  by_cases h50 : b - a ≥ 50
  · rw [if_pos h50]
    have v1 := xIF xs (a + (b - a) / 4 * 1) 0 hN (by omega) (by omega) hn hm (by omega)
    obtain ⟨b1, b2⟩ := xIE (lt := ltS) (d := xs.toArray) (s := 0) (a := a + (b - a) / 4 * 1 - 1) (b := a + (b - a) / 4 * 1) (c := a + (b - a) / 4 * 1 + 1) (n := n) (by omega) (by omega) (by omega)
    rw [← Sort.medianAdjacent] at b1 b2
    rw [ei] at v1
    generalize Sort.medianAdjacent ltS xs.toArray (a + (b - a) / 4 * 1) 0 = r1 at *
    have v2 := xIF xs (a + (b - a) / 4 * 2) r1.2 hN (by omega) (by omega) hn hm (by omega)
    obtain ⟨c1, c2⟩ := xIE (lt := ltS) (d := xs.toArray) (s := r1.2) (a := a + (b - a) / 4 * 2 - 1) (b := a + (b - a) / 4 * 2) (c := a + (b - a) / 4 * 2 + 1) (n := n) (by omega) (by omega) (by omega)
    rw [← Sort.medianAdjacent] at c1 c2
    rw [ej] at v2
    generalize Sort.medianAdjacent ltS xs.toArray (a + (b - a) / 4 * 2) r1.2 = r2 at *
    have v3 := xIF xs (a + (b - a) / 4 * 3) r2.2 hN (by omega) (by omega) hn hm (by omega)
    obtain ⟨d1, d2⟩ := xIE (lt := ltS) (d := xs.toArray) (s := r2.2) (a := a + (b - a) / 4 * 3 - 1) (b := a + (b - a) / 4 * 3) (c := a + (b - a) / 4 * 3 + 1) (n := n) (by omega) (by omega) (by omega)
    rw [← Sort.medianAdjacent] at d1 d2
    rw [ek] at v3
    generalize Sort.medianAdjacent ltS xs.toArray (a + (b - a) / 4 * 3) r2.2 = r3 at *
    have v4 := xID xs r1.1 r2.1 r3.1 r3.2 hN b1 c1 d1 hn hm (by omega)
    generalize Sort.median ltS xs.toArray r1.1 r2.1 r3.1 r3.2 = m at *
    repeat first|refine sgo ?_|refine xBE hq ?_|refine sop ?_
    refine cndt ?_ rfl (decide_eq_true (by omega))
    repeat first|refine sgo ?_|refine sop ?_
    refine cndt ?_ rfl (decide_eq_true (by omega))
    repeat first|refine sgo ?_|refine cl (lent := [⟨0, 0⟩, ⟨1, 16384⟩]) v1 ?_|refine cl (lent := [⟨0, 0⟩, ⟨1, 16384⟩]) v2 ?_|refine cl (lent := [⟨0, 0⟩, ⟨1, 16384⟩]) v3 ?_|refine cl (lent := [⟨0, 0⟩, ⟨1, 16384⟩]) v4 ?_|refine sop ?_
    repeat first|refine sgo ?_|refine sop ?_
    by_cases h0 : m.2 = 0
    · refine cndt ?_ rfl (by simp [h0])
      rw [if_pos h0]
      repeat first|refine sgo ?_|refine sop ?_
      exact xAC ⟨.inr rfl, oL1 rfl⟩
    · refine cndf ?_ rfl (by simp [h0])
      rw [if_neg h0]
      repeat first|refine sgo ?_|refine sop ?_
      by_cases h12 : m.2 = 12
      · refine cndt ?_ rfl (by simp [h12])
        rw [if_pos h12]
        repeat first|refine sgo ?_|refine sop ?_
        exact xAC ⟨.inr rfl, oL1 rfl⟩
      · refine cndf ?_ rfl (by simp; omega)
        rw [if_neg h12]
        repeat first|refine sgo ?_|refine sop ?_
        exact xAC ⟨.inr rfl, oL1 rfl⟩
  · rw [if_neg h50]
    have v4 := xID xs (a + (b - a) / 4 * 1) (a + (b - a) / 4 * 2) (a + (b - a) / 4 * 3) 0 hN (by omega) (by omega) (by omega) hn hm (by omega)
    rw [ei, ej, ek] at v4
    generalize Sort.median ltS xs.toArray (a + (b - a) / 4 * 1) (a + (b - a) / 4 * 2) (a + (b - a) / 4 * 3) 0 = m at *
    repeat first|refine sgo ?_|refine xBE hq ?_|refine sop ?_
    refine cndt ?_ rfl (decide_eq_true (by omega))
    repeat first|refine sgo ?_|refine sop ?_
    refine cndf (xAB ?_) rfl (decide_eq_false (by omega))
    repeat first|refine sgo ?_|refine cl (lent := [⟨0, 0⟩, ⟨1, 16384⟩]) v4 ?_|refine sop ?_
    repeat first|refine sgo ?_|refine sop ?_
    by_cases h0 : m.2 = 0
    · refine cndt ?_ rfl (by simp [h0])
      rw [if_pos h0]
      repeat first|refine sgo ?_|refine sop ?_
      exact xAC ⟨.inr rfl, oL1 rfl⟩
    · refine cndf ?_ rfl (by simp [h0])
      rw [if_neg h0]
      repeat first|refine sgo ?_|refine sop ?_
      by_cases h12 : m.2 = 12
      · refine cndt ?_ rfl (by simp [h12])
        rw [if_pos h12]
        repeat first|refine sgo ?_|refine sop ?_
        exact xAC ⟨.inr rfl, oL1 rfl⟩
      · refine cndf ?_ rfl (by simp; omega)
        rw [if_neg h12]
        repeat first|refine sgo ?_|refine sop ?_
        exact xAC ⟨.inr rfl, oL1 rfl⟩
set_option maxHeartbeats 1000000 in
theorem xOh {N n : Nat} (xs : List SpanL) (a b : Nat) (hN : xs.length = N) (hab : a < b) (hb : b ≤ n) (hn : n ≤ N) (hm : N ≤ 60000) :
    VC Tryz.prog 201 [.own ⟨0, 0⟩ N 0 n, .int .i64 a, .int .i64 b, .fn 136 []] [blkV 2 (xs.map encS)] (.tup []) (srt (Sort.reverseRange xs.toArray a b)) := by
  refine xBV vf201 ?_ (Nat.le_of_ble_eq_true rfl) (by intro vs h; cases h; simp)
  repeat first|refine sgo ?_|refine sop ?_
  refine xAE (fun (g : Nat × Nat × List SpanL) => [(0, .own ⟨0, 0⟩ N 0 n), (8, .int .i64 g.1), (9, .int .i64 (g.2.1 : Nat))])
    (fun g => [(⟨0, 0⟩, blkV 2 (g.2.2.map encS))]) (fun g => g.2.1 - g.1)
    (fun g => g.2.1 < b ∧ g.2.2.length = N ∧ Sort.reverseLoop g.1 g.2.1 g.2.2.toArray = Sort.reverseRange xs.toArray a b) (a, b - 1, xs)
    (goes (h1 := by refine ⟨rfl, rfl, congrArg (fun z => some (PV.int .i64 z)) (by simp only; omega), trivial⟩)) ⟨by simp only; omega, hN, rfl⟩ ?_
  rintro ⟨i, j, ys⟩ ⟨hj, hyl, hv⟩
  dsimp only at hj hyl hv ⊢
  rw [Sort.reverseLoop] at hv
  repeat first|refine sgo ?_|refine sop ?_
  refine cnd (fun h => xAB ?_) (fun h => xAD ?_)
  · have hij : i < j := by have h' := of_decide_eq_true h; omega
    obtain ⟨x, hx⟩ : ∃ x, ys[i]? = some x := ⟨_, List.getElem?_eq_getElem (by omega)⟩
    obtain ⟨y, hy⟩ : ∃ y, ys[j]? = some y := ⟨_, List.getElem?_eq_getElem (by omega)⟩
    have hk1 : 0 + (i : Int).toNat = i := by omega
    have hk2 : 0 + (j : Int).toNat = j := by omega
    have hx' := xAe hx hk1
    have hy' := xAe hy hk2
    rw [if_pos hij, xCK hx hy, ← hk1, ← hk2] at hv
    simp only [hk1, hk2] at hv
    repeat first|refine sgo ?_|refine xAJ ?_|refine o_v (vst encS y) ?_|refine o_v (vst encS x) ?_|refine sop ?_
    exact agn (i + 1, j - 1, (ys.set (0 + (i : Int).toNat) y).set (0 + (j : Int).toNat) x) ⟨by simp only; omega, by simpa only [List.length_set] using hyl, by simp only [hk1, hk2]; exact hv⟩
      (goes (h1 := by refine ⟨rfl, rfl, congrArg (fun z => some (PV.int .i64 z)) (by simp only; omega), trivial⟩))
  · have hij : ¬ i < j := by have h' := of_decide_eq_false h; omega
    rw [if_neg hij] at hv
    exact ⟨.inl rfl, oL1 (by rw [← hv])⟩
end Go.Proofs
open Go.V Go.Pu
set_option linter.unusedVariables false
set_option linter.unusedSimpArgs false
set_option maxRecDepth 20000
namespace Go.Proofs
def vc202 := vcm Tryz.prog 202
theorem vf202 : VF Tryz.prog 202 = some (141, vc202, [.tmp 8]) := by kernel_rfl
set_option maxHeartbeats 4000000 in
theorem xVH {N n : Nat} (xs : List SpanL) (a b : Nat) (hN : xs.length = N) (hab : a < b) (hb : b ≤ n) (hn : n ≤ N) (hm : N ≤ 60000) :
    VC Tryz.prog 202 [.own ⟨0, 0⟩ N 0 n, .int .i64 a, .int .i64 b, .fn 136 []] [blkV 2 (xs.map encS)] (.bool (Sort.partialInsertionSort ltS xs.toArray a b).2) (srt (Sort.partialInsertionSort ltS xs.toArray a b).1) := by
  refine vcs vf202 ?_
  repeat first|refine sgo ?_|refine sop ?_
  refine xAE (fun (g : Nat × Nat × List SpanL) => [(0, .own ⟨0, 0⟩ N 0 n), (1, .int .i64 a), (2, .int .i64 b), (3, .fn 136 []), (8, .bool false), (9, .int .i64 (g.2.1 : Nat)), (10, .int .i64 g.1)])
    (fun g => [(⟨0, 0⟩, blkV 2 (g.2.2.map encS))]) (fun g => 5 - g.1)
    (fun g => g.1 ≤ 5 ∧ a + 1 ≤ g.2.1 ∧ g.2.1 ≤ b ∧ g.2.2.length = N ∧ Sort.partialIns ltS a b (5 - g.1) g.2.1 g.2.2.toArray = Sort.partialInsertionSort ltS xs.toArray a b) (0, a + 1, xs)
    goes ⟨by omega, Nat.le_refl _, hab, hN, rfl⟩ ?_
  rintro ⟨k, i, ys⟩ ⟨hk, hai, hib, hyl, hv⟩
  dsimp only at hk hai hib hyl hv ⊢
  repeat first|refine sgo ?_|refine sop ?_
  by_cases hk5 : k < 5
  case neg =>
    refine cndf (xAD ?_) rfl (decide_eq_false (by omega))
    rw [show 5 - k = 0 by omega, Sort.partialIns] at hv
    repeat first|refine sgo ?_|refine sop ?_
    rw [← hv]
    exact xAC ⟨.inr rfl, oL1 rfl⟩
  refine cndt (xAB ?_) rfl (decide_eq_true (by omega))
  rw [show 5 - k = (5 - (k + 1)) + 1 by omega, Sort.partialIns] at hv
  simp only at hv
  refine xAb (xA0 (xCC (lvl := 1) (fun (g : Nat) => [(0, .own ⟨0, 0⟩ N 0 n), (1, .int .i64 a), (2, .int .i64 b), (3, .fn 136 []), (8, .bool false), (9, .int .i64 g), (10, .int .i64 k)])
    (fun g => [(⟨0, 0⟩, blkV 2 (ys.map encS))]) (fun g => a + 1 ≤ g ∧ g ≤ b ∧ g = Sort.scanSorted ltS ys.toArray b i) (xA0 ?_) ?_))
  · refine xAE (fun (g : Nat) => [(0, .own ⟨0, 0⟩ N 0 n), (1, .int .i64 a), (2, .int .i64 b), (3, .fn 136 []), (8, .bool false), (9, .int .i64 g), (10, .int .i64 k)])
      (fun g => [(⟨0, 0⟩, blkV 2 (ys.map encS))]) (fun g => b - g) (fun g => a + 1 ≤ g ∧ g ≤ b ∧ Sort.scanSorted ltS ys.toArray b g = Sort.scanSorted ltS ys.toArray b i) i goes ⟨hai, hib, rfl⟩ ?_
    rintro i2 ⟨h1, h2, hw⟩
    (try dsimp only)
    rw [Sort.scanSorted] at hw
    by_cases hlt : i2 < b
    · have d1 : decide ((i2 : Int) < (b : Int)) = true := decide_eq_true (by omega)
      obtain ⟨x, hx⟩ : ∃ x, ys[i2]? = some x := ⟨_, List.getElem?_eq_getElem (by omega)⟩
      obtain ⟨y, hy⟩ : ∃ y, ys[i2 - 1]? = some y := ⟨_, List.getElem?_eq_getElem (by omega)⟩
      have hx' := xAe (k := 0 + (i2 : Int).toNat) hx (by omega)
      have hy' := xAe (k := 0 + ((i2 : Int) - 1).toNat) hy (by omega)
      rw [gb hx, gb hy] at hw
      repeat first|refine sgo ?_|refine xAJ ?_|refine cv0 (xB5 x y) ?_|refine sop ?_
      refine cnd (fun h => xAB ?_) (fun h => xAD ?_)
      · rw [if_pos (by simp [hlt]; simpa [ltS] using h)] at hw
        repeat first|refine sgo ?_|refine sop ?_
        exact agn (i2 + 1) ⟨by omega, by omega, hw⟩ goes
      · rw [if_neg (by simp [hlt]; simpa [ltS] using h)] at hw
        exact ⟨i2, ⟨h1, h2, hw⟩, goes⟩
    · have d1 : decide ((i2 : Int) < (b : Int)) = false := decide_eq_false (by omega)
      rw [if_neg (by simp [hlt])] at hw
      repeat first|refine sgo ?_|refine sop ?_
      refine cndf (xAD ?_)
      exact ⟨i2, ⟨h1, h2, hw⟩, goes⟩
  · rintro i2 ⟨h1, h2, hw⟩
    rw [← hw] at hv
    (try dsimp only)
    repeat first|refine sgo ?_|refine sop ?_
    by_cases hib2 : i2 = b
    · refine cndt ?_ rfl (by simp [hib2])
      rw [if_pos hib2] at hv
      repeat first|refine sgo ?_|refine sop ?_
      rw [← hv]
      exact xAC ⟨.inr rfl, oL1 rfl⟩
    refine cndf (xAB ?_) rfl (by simp; omega)
    rw [if_neg hib2] at hv
    repeat first|refine sgo ?_|refine sop ?_
    by_cases h50 : b - a < 50
    · refine cndt ?_ rfl (decide_eq_true (by omega))
      rw [if_pos h50] at hv
      repeat first|refine sgo ?_|refine sop ?_
      rw [← hv]
      exact xAC ⟨.inr rfl, oL1 rfl⟩
    refine cndf (xAB ?_) rfl (decide_eq_false (by omega))
    rw [if_neg h50] at hv
    obtain ⟨x, hx⟩ : ∃ x, ys[i2]? = some x := ⟨_, List.getElem?_eq_getElem (by omega)⟩
    obtain ⟨y, hy⟩ : ∃ y, ys[i2 - 1]? = some y := ⟨_, List.getElem?_eq_getElem (by omega)⟩
    have hk1 : 0 + (i2 : Int).toNat = i2 := by omega
    have hk2 : 0 + ((i2 : Int) - 1).toNat = i2 - 1 := by omega
    have hx' := xAe hx hk1
    have hy' := xAe hy hk2
    rw [xCK hx hy] at hv
    refine xAb (rg ?_)
    repeat first|refine xAP ?_|refine xAJ ?_|refine o_v (vst encS y) ?_|refine o_v (vst encS x) ?_|refine sop ?_
    refine nl ?_
    rw [hk1, hk2]
    have hdl : ((ys.set i2 y).set (i2 - 1) x).length = N := by simpa only [List.length_set] using hyl
    generalize (ys.set i2 y).set (i2 - 1) x = ds at hv hdl
    refine xCC (lvl := 1) (fun (g : List SpanL) => [(0, .own ⟨0, 0⟩ N 0 n), (1, .int .i64 a), (2, .int .i64 b), (3, .fn 136 []), (8, .bool false), (9, .int .i64 i2), (10, .int .i64 k)])
      (fun g => [(⟨0, 0⟩, blkV 2 (g.map encS))]) (fun g => g.length = N ∧ g.toArray = if i2 - a ≥ 2 then Sort.shiftDown ltS (i2 - 1) ds.toArray else ds.toArray) ?_ ?_
    · repeat first|refine sgo ?_|refine sop ?_
      by_cases hia : i2 - a ≥ 2
      · refine cndt ?_ rfl (decide_eq_true (by omega))
        rw [if_pos hia]
        repeat first|refine sgo ?_|refine sop ?_
        refine xAE (fun (g : Nat × List SpanL) => [(0, .own ⟨0, 0⟩ N 0 n), (1, .int .i64 a), (2, .int .i64 b), (3, .fn 136 []), (8, .bool false), (9, .int .i64 i2), (10, .int .i64 k), (11, .int .i64 g.1)])
          (fun g => [(⟨0, 0⟩, blkV 2 (g.2.map encS))]) (fun g => g.1) (fun g => g.1 ≤ i2 - 1 ∧ g.2.length = N ∧ Sort.shiftDown ltS g.1 g.2.toArray = Sort.shiftDown ltS (i2 - 1) ds.toArray) (i2 - 1, ds)
          (goes (h1 := by refine ⟨rfl, rfl, rfl, rfl, rfl, rfl, rfl, congrArg (fun z => some (PV.int .i64 z)) (by simp only; omega), trivial⟩)) ⟨Nat.le_refl _, hdl, rfl⟩ ?_
        rintro ⟨j, zs⟩ ⟨hj, hzl, hz⟩
        dsimp only at hj hzl hz ⊢
        repeat first|refine sgo ?_|refine sop ?_
        cases j with
        | zero =>
          refine cndf (xAD ?_) rfl (decide_eq_false (by omega))
          exact ⟨zs, ⟨hzl, hz⟩, goes⟩
        | succ j =>
          refine cndt (xAB ?_) rfl (decide_eq_true (by omega))
          obtain ⟨x, hx⟩ : ∃ x, zs[j + 1]? = some x := ⟨_, List.getElem?_eq_getElem (by omega)⟩
          obtain ⟨y, hy⟩ : ∃ y, zs[j]? = some y := ⟨_, List.getElem?_eq_getElem (by omega)⟩
          have hl1 : 0 + ((j + 1 : Nat) : Int).toNat = j + 1 := by omega
          have hl2 : 0 + (((j + 1 : Nat) : Int) - 1).toNat = j := by omega
          have hx' := xAe hx hl1
          have hy' := xAe hy hl2
          rw [Sort.shiftDown, gb hx, gb hy] at hz
          repeat first|refine sgo ?_|refine xAJ ?_|refine cv0 (xB5 x y) ?_|refine sop ?_
          refine cnd (fun h => xAD ?_) (fun h => xAB ?_)
          · rw [if_pos (by simpa [ltS] using h)] at hz
            exact ⟨zs, ⟨hzl, hz⟩, goes⟩
          · rw [if_neg (by simpa [ltS] using h), xCK hx hy] at hz
            repeat first|refine sgo ?_|refine xAJ ?_|refine o_v (vst encS y) ?_|refine o_v (vst encS x) ?_|refine sop ?_
            exact agn (j, (zs.set (0 + ((j + 1 : Nat) : Int).toNat) y).set (0 + (((j + 1 : Nat) : Int) - 1).toNat) x) ⟨by simp only; omega, by simpa only [List.length_set] using hzl, by simp only [hl1, hl2]; exact hz⟩
              (goes (h1 := by refine ⟨rfl, rfl, rfl, rfl, rfl, rfl, rfl, congrArg (fun z => some (PV.int .i64 z)) (by simp only; omega), trivial⟩))
      · refine cndf (xAB ?_) rfl (decide_eq_false (by omega))
        rw [if_neg hia]
        exact ⟨ds, ⟨hdl, rfl⟩, goes⟩
    · rintro es ⟨hel, he⟩
      rw [← he] at hv
      (try dsimp only)
      repeat first|refine sgo ?_|refine sop ?_
      by_cases hbi : b - i2 ≥ 2
      · refine cndt ?_ rfl (decide_eq_true (by omega))
        rw [if_pos hbi] at hv
        repeat first|refine sgo ?_|refine sop ?_
        refine xAE (fun (g : Nat × List SpanL) => [(0, .own ⟨0, 0⟩ N 0 n), (1, .int .i64 a), (2, .int .i64 b), (3, .fn 136 []), (8, .bool false), (9, .int .i64 i2), (10, .int .i64 k), (12, .int .i64 g.1)])
          (fun g => [(⟨0, 0⟩, blkV 2 (g.2.map encS))]) (fun g => b - g.1) (fun g => i2 + 1 ≤ g.1 ∧ g.1 ≤ b ∧ g.2.length = N ∧ Sort.shiftUp ltS b g.1 g.2.toArray = Sort.shiftUp ltS b (i2 + 1) es.toArray) (i2 + 1, es)
          goes ⟨Nat.le_refl _, by omega, hel, rfl⟩ ?_
        rintro ⟨j, zs⟩ ⟨hj, hjb, hzl, hz⟩
        dsimp only at hj hjb hzl hz ⊢
        rw [Sort.shiftUp] at hz
        repeat first|refine sgo ?_|refine sop ?_
        by_cases hjb2 : j < b
        · refine cndt (xAB ?_) rfl (decide_eq_true (by omega))
          obtain ⟨x, hx⟩ : ∃ x, zs[j]? = some x := ⟨_, List.getElem?_eq_getElem (by omega)⟩
          obtain ⟨y, hy⟩ : ∃ y, zs[j - 1]? = some y := ⟨_, List.getElem?_eq_getElem (by omega)⟩
          have hl1 : 0 + (j : Int).toNat = j := by omega
          have hl2 : 0 + ((j : Int) - 1).toNat = j - 1 := by omega
          have hx' := xAe hx hl1
          have hy' := xAe hy hl2
          rw [if_pos hjb2, gb hx, gb hy] at hz
          repeat first|refine sgo ?_|refine xAJ ?_|refine cv0 (xB5 x y) ?_|refine sop ?_
          refine cnd (fun h => xAD ?_) (fun h => xAB ?_)
          · rw [if_pos (by simpa [ltS] using h)] at hz
            rw [← hz] at hv
            repeat first|refine sgo ?_|refine sop ?_
            exact agn (k + 1, i2, zs) ⟨by simp only; omega, h1, h2, hzl, hv⟩ goes
          · rw [if_neg (by simpa [ltS] using h), xCK hx hy] at hz
            repeat first|refine sgo ?_|refine xAJ ?_|refine o_v (vst encS y) ?_|refine o_v (vst encS x) ?_|refine sop ?_
            exact agn (j + 1, (zs.set (0 + (j : Int).toNat) y).set (0 + ((j : Int) - 1).toNat) x) ⟨by simp only; omega, by simp only; omega, by simpa only [List.length_set] using hzl, by simp only [hl1, hl2]; exact hz⟩ goes
        · refine cndf (xAD ?_) rfl (decide_eq_false (by omega))
          rw [if_neg hjb2] at hz
          rw [← hz] at hv
          repeat first|refine sgo ?_|refine sop ?_
          exact agn (k + 1, i2, zs) ⟨by simp only; omega, h1, h2, hzl, hv⟩ goes
      · refine cndf (xAB ?_) rfl (decide_eq_false (by omega))
        rw [if_neg hbi] at hv
        repeat first|refine sgo ?_|refine sop ?_
        exact agn (k + 1, i2, es) ⟨by simp only; omega, h1, h2, hel, hv⟩ goes
end Go.Proofs
open Go.V Go.Pu
set_option linter.unusedVariables false
set_option linter.unusedSimpArgs false
set_option maxRecDepth 20000
namespace Go.Proofs
def vc203 := vcm Tryz.prog 203
theorem vf203 : VF Tryz.prog 203 = some (90, vc203, [.tmp 10]) := by kernel_rfl
def vc204 := vcm Tryz.prog 204
theorem vf204 : VF Tryz.prog 204 = some (178, vc204, [.tmp 10, .tmp 11]) := by kernel_rfl
theorem xMe {d : Array SpanL} {pv : SpanL} {a i j i2 j2 : Nat} (hp : d[a]! = pv) (h1 : Sort.scanUp (fun x => !ltS pv x) d j i = i2) (h2 : Sort.scanDown (fun x => ltS pv x) d i2 j = j2) (hi : i ≤ i2) (hj : j2 ≤ j) :
    Sort.partEqLoop ltS a i j d = if i2 > j2 then (i2, d) else Sort.partEqLoop ltS a (i2 + 1) (j2 - 1) (Sort.swp d i2 j2) := by
  subst hp
  rw [Sort.partEqLoop]
  rw [h1, h2]
  split
  · rfl
  · rw [dif_pos (by omega)]
theorem xQP {d : Array SpanL} {pv : SpanL} {a i j i2 j2 : Nat} (hp : d[a]! = pv) (h1 : Sort.scanUp (fun x => ltS x pv) d j i = i2) (h2 : Sort.scanDown (fun x => !ltS x pv) d i2 j = j2) (hi : i ≤ i2) (hj : j2 ≤ j) :
    Sort.partLoop ltS a i j d = if i2 > j2 then (j2, d) else Sort.partLoop ltS a (i2 + 1) (j2 - 1) (Sort.swp d i2 j2) := by
  subst hp
  rw [Sort.partLoop]
  rw [h1, h2]
  split
  · rfl
  · rw [dif_pos (by omega)]
set_option maxHeartbeats 4000000 in
theorem xQO {N n : Nat} (xs : List SpanL) (a b pivot : Nat) (hN : xs.length = N) (hp1 : a ≤ pivot) (hp2 : pivot < b) (hb : b ≤ n) (hn : n ≤ N) (hm : N ≤ 60000) :
    VC Tryz.prog 203 [.own ⟨0, 0⟩ N 0 n, .int .i64 a, .int .i64 b, .int .i64 pivot, .fn 136 []] [blkV 2 (xs.map encS)] (.int .i64 (Sort.partitionEqual ltS xs.toArray a b pivot).1) (srt (Sort.partitionEqual ltS xs.toArray a b pivot).2) := by
  refine vcs vf203 ?_
  obtain ⟨x0, hx0⟩ : ∃ x, xs[a]? = some x := ⟨_, List.getElem?_eq_getElem (by omega)⟩
  obtain ⟨y0, hy0⟩ : ∃ y, xs[pivot]? = some y := ⟨_, List.getElem?_eq_getElem (by omega)⟩
  have hk1 : 0 + (a : Int).toNat = a := by omega
  have hk2 : 0 + (pivot : Int).toNat = pivot := by omega
  have hx' := xAe hx0 hk1
  have hy' := xAe hy0 hk2
  have hsw := xCK hx0 hy0
  rw [← hk1, ← hk2] at hsw
  unfold Sort.partitionEqual
  rw [xCK hx0 hy0]
  refine xAb (rg ?_)
  repeat first|refine xAP ?_|refine sop ?_
  refine nl ?_
  refine xAb (rg ?_)
  repeat first|refine xAP ?_|refine xAJ ?_|refine o_v (vst encS y0) ?_|refine o_v (vst encS x0) ?_|refine sop ?_
  refine nl ?_
  refine xAb (rg ?_)
  repeat first|refine xAP ?_|refine sop ?_
  refine nl ?_
  rw [hk1, hk2]
  have hdl : ((xs.set a y0).set pivot x0).length = N := by simpa only [List.length_set] using hN
  generalize (xs.set a y0).set pivot x0 = ds at hdl
  refine xCC (lvl := 1) (fun (g : Nat × List SpanL) => [(0, .own ⟨0, 0⟩ N 0 n), (11, .int .i64 g.1)]) (fun g => [(⟨0, 0⟩, blkV 2 (g.2.map encS))]) (fun g => (g.1, g.2.toArray) = Sort.partEqLoop ltS a (a + 1) (b - 1) ds.toArray) (xA0 ?_) ?_
  · refine xAE (fun (g : Nat × Nat × List SpanL) => [(0, .own ⟨0, 0⟩ N 0 n), (1, .int .i64 a), (4, .fn 136 []), (11, .int .i64 g.1), (12, .int .i64 (g.2.1 : Nat))])
      (fun g => [(⟨0, 0⟩, blkV 2 (g.2.2.map encS))]) (fun g => g.2.1 + 1 - g.1)
      (fun g => a < g.1 ∧ g.1 ≤ b ∧ g.2.1 < b ∧ g.2.2.length = N ∧ Sort.partEqLoop ltS a g.1 g.2.1 g.2.2.toArray = Sort.partEqLoop ltS a (a + 1) (b - 1) ds.toArray) (a + 1, b - 1, ds)
      (goes (h1 := by refine ⟨rfl, rfl, rfl, rfl, congrArg (fun z => some (PV.int .i64 z)) (by simp only; omega), trivial⟩)) ⟨by simp only; omega, by simp only; omega, by simp only; omega, hdl, rfl⟩ ?_
    rintro ⟨i, j, ys⟩ ⟨hai, hib, hjb, hyl, hv⟩
    dsimp only at hai hib hjb hyl hv ⊢
    obtain ⟨pv, hpv⟩ : ∃ x, ys[a]? = some x := ⟨_, List.getElem?_eq_getElem (by omega)⟩
    have hpv' := xAe (k := 0 + (a : Int).toNat) hpv (by omega)
    refine xA0 ?_
    refine xCC (lvl := 1) (fun (g : Nat) => [(0, .own ⟨0, 0⟩ N 0 n), (1, .int .i64 a), (4, .fn 136 []), (12, .int .i64 (j : Nat)), (11, .int .i64 (g : Nat))]) (fun g => [(⟨0, 0⟩, blkV 2 (ys.map encS))]) (fun g => i ≤ g ∧ g ≤ b ∧ Sort.scanUp (fun x => !ltS pv x) ys.toArray j (i) = g) (xA0 ?_) ?_
    · refine xAE (fun (g : Nat) => [(0, .own ⟨0, 0⟩ N 0 n), (1, .int .i64 a), (4, .fn 136 []), (12, .int .i64 (j : Nat)), (11, .int .i64 (g : Nat))]) (fun g => [(⟨0, 0⟩, blkV 2 (ys.map encS))]) (fun g => b - g) (fun g => i ≤ g ∧ g ≤ b ∧ Sort.scanUp (fun x => !ltS pv x) ys.toArray j g = Sort.scanUp (fun x => !ltS pv x) ys.toArray j (i)) (i) goes ⟨Nat.le_refl _, hib, rfl⟩ ?_
      rintro i2 ⟨h1, h2, hw⟩
      (try dsimp only)
      rw [Sort.scanUp] at hw
      by_cases hlt : i2 ≤ j
      · have d1 : decide ((i2 : Int) ≤ (j : Int)) = true := decide_eq_true (by omega)
        obtain ⟨x, hx⟩ : ∃ x, ys[i2]? = some x := ⟨_, List.getElem?_eq_getElem (by omega)⟩
        have hx' := xAe (k := 0 + (i2 : Int).toNat) hx (by omega)
        rw [gb hx] at hw
        repeat first|refine sgo ?_|refine xAJ ?_|refine cv0 (xB5 pv x) ?_|refine sop ?_
        refine cnd (fun h => xAB ?_) (fun h => xAD ?_)
        · rw [if_pos (by simp [hlt]; simpa [ltS] using h)] at hw
          repeat first|refine sgo ?_|refine sop ?_
          exact agn (i2 + 1) ⟨by omega, by omega, hw⟩ goes
        · rw [if_neg (by simp [hlt]; simpa [ltS] using h)] at hw
          exact ⟨i2, ⟨h1, h2, hw.symm⟩, goes⟩
      · have d1 : decide ((i2 : Int) ≤ (j : Int)) = false := decide_eq_false (by omega)
        rw [if_neg (by simp [hlt])] at hw
        repeat first|refine sgo ?_|refine sop ?_
        refine cndf (xAD ?_)
        exact ⟨i2, ⟨h1, h2, hw.symm⟩, goes⟩
    rintro i2 ⟨hi2, hib2, hu⟩
    (try dsimp only)
    refine xCC (lvl := 1) (fun (g : Nat) => [(0, .own ⟨0, 0⟩ N 0 n), (1, .int .i64 a), (4, .fn 136 []), (11, .int .i64 (i2 : Nat)), (12, .int .i64 (g : Nat))]) (fun g => [(⟨0, 0⟩, blkV 2 (ys.map encS))]) (fun g => g ≤ j ∧ Sort.scanDown (fun x => ltS pv x) ys.toArray i2 j = g) (xA0 ?_) ?_
    · refine xAE (fun (g : Nat) => [(0, .own ⟨0, 0⟩ N 0 n), (1, .int .i64 a), (4, .fn 136 []), (11, .int .i64 (i2 : Nat)), (12, .int .i64 (g : Nat))]) (fun g => [(⟨0, 0⟩, blkV 2 (ys.map encS))]) (fun g => g) (fun g => g ≤ j ∧ Sort.scanDown (fun x => ltS pv x) ys.toArray i2 g = Sort.scanDown (fun x => ltS pv x) ys.toArray i2 j) j goes ⟨Nat.le_refl _, rfl⟩ ?_
      rintro j2 ⟨h1, hw⟩
      (try dsimp only)
      by_cases hlt : i2 ≤ j2
      · obtain ⟨m, rfl⟩ : ∃ m, j2 = m + 1 := ⟨j2 - 1, by omega⟩
        rw [Sort.scanDown] at hw
        have d1 : decide ((i2 : Int) ≤ ((m + 1 : Nat) : Int)) = true := decide_eq_true (by omega)
        obtain ⟨x, hx⟩ : ∃ x, ys[m + 1]? = some x := ⟨_, List.getElem?_eq_getElem (by omega)⟩
        have hx' := xAe (k := 0 + ((m + 1 : Nat) : Int).toNat) hx (by omega)
        rw [gb hx] at hw
        repeat first|refine sgo ?_|refine xAJ ?_|refine cv0 (xB5 pv x) ?_|refine sop ?_
        refine cnd (fun h => xAB ?_) (fun h => xAD ?_)
        · rw [if_pos (by simp [hlt]; simpa [ltS] using h)] at hw
          repeat first|refine sgo ?_|refine sop ?_
          exact agn m ⟨by omega, hw⟩ (goes (h1 := by refine ⟨rfl, rfl, rfl, rfl, congrArg (fun z => some (PV.int .i64 z)) (by omega), trivial⟩))
        · rw [if_neg (by simp [hlt]; simpa [ltS] using h)] at hw
          exact ⟨m + 1, ⟨h1, hw.symm⟩, goes⟩
      · have d1 : decide ((i2 : Int) ≤ (j2 : Int)) = false := decide_eq_false (by omega)
        have hz : Sort.scanDown (fun x => ltS pv x) ys.toArray i2 j2 = j2 := by
          cases j2 with
          | zero => rfl
          | succ m => rw [Sort.scanDown, if_neg (by simp [hlt])]
        rw [hz] at hw
        repeat first|refine sgo ?_|refine sop ?_
        refine cndf (xAD ?_)
        exact ⟨j2, ⟨h1, hw.symm⟩, goes⟩
    rintro j2 ⟨hj2, hd⟩
    (try dsimp only)
    rw [xMe (gb hpv) hu hd hi2 hj2] at hv
    repeat first|refine sgo ?_|refine sop ?_
    by_cases hgt : i2 > j2
    · refine cndt (xAD ?_) rfl (decide_eq_true (by omega))
      rw [if_pos hgt] at hv
      exact ⟨(i2, ys), hv, goes⟩
    · refine cndf (xAB ?_) rfl (decide_eq_false (by omega))
      rw [if_neg hgt] at hv
      obtain ⟨x, hx⟩ : ∃ x, ys[i2]? = some x := ⟨_, List.getElem?_eq_getElem (by omega)⟩
      obtain ⟨y, hy⟩ : ∃ y, ys[j2]? = some y := ⟨_, List.getElem?_eq_getElem (by omega)⟩
      have hk1 : 0 + (i2 : Int).toNat = i2 := by omega
      have hk2 : 0 + (j2 : Int).toNat = j2 := by omega
      have hx' := xAe hx hk1
      have hy' := xAe hy hk2
      rw [xCK hx hy] at hv
      repeat first|refine sgo ?_|refine xAJ ?_|refine o_v (vst encS y) ?_|refine o_v (vst encS x) ?_|refine sop ?_
      exact agn (i2 + 1, j2 - 1, (ys.set (0 + (i2 : Int).toNat) y).set (0 + (j2 : Int).toNat) x) ⟨by simp only; omega, by simp only; omega, by simp only; omega, by simpa only [List.length_set] using hyl, by simp only [hk1, hk2]; exact hv⟩
        (goes (h1 := by refine ⟨rfl, rfl, rfl, rfl, congrArg (fun z => some (PV.int .i64 z)) (by simp only; omega), trivial⟩))
  · rintro ⟨r, zs⟩ hr
    dsimp only at hr ⊢
    rw [← hr]
    repeat first|refine sgo ?_|refine sop ?_
    exact xAC ⟨.inr rfl, oL1 rfl⟩
set_option maxHeartbeats 4000000 in
theorem xVK {N n : Nat} (xs : List SpanL) (a b pivot : Nat) (hN : xs.length = N) (hp1 : a ≤ pivot) (hp2 : pivot < b) (hb : b ≤ n) (hn : n ≤ N) (hm : N ≤ 60000) :
    VC Tryz.prog 204 [.own ⟨0, 0⟩ N 0 n, .int .i64 a, .int .i64 b, .int .i64 pivot, .fn 136 []] [blkV 2 (xs.map encS)] (.tup [.int .i64 (Sort.partition ltS xs.toArray a b pivot).1, .bool (Sort.partition ltS xs.toArray a b pivot).2.1]) (srt (Sort.partition ltS xs.toArray a b pivot).2.2) := by
  refine xBV vf204 ?_ (Nat.le_of_ble_eq_true rfl) (by intro vs h; cases h; simp)
  obtain ⟨x0, hx0⟩ : ∃ x, xs[a]? = some x := ⟨_, List.getElem?_eq_getElem (by omega)⟩
  obtain ⟨y0, hy0⟩ : ∃ y, xs[pivot]? = some y := ⟨_, List.getElem?_eq_getElem (by omega)⟩
  have hk1 : 0 + (a : Int).toNat = a := by omega
  have hk2 : 0 + (pivot : Int).toNat = pivot := by omega
  have hx' := xAe hx0 hk1
  have hy' := xAe hy0 hk2
  have hsw := xCK hx0 hy0
  rw [← hk1, ← hk2] at hsw
  unfold Sort.partition
  simp only
  rw [xCK hx0 hy0]
  refine xAb (rg ?_)
  repeat first|refine xAP ?_|refine sop ?_
  refine nl ?_
  refine xAb (rg ?_)
  repeat first|refine xAP ?_|refine xAJ ?_|refine o_v (vst encS y0) ?_|refine o_v (vst encS x0) ?_|refine sop ?_
  refine nl ?_
  refine xAb (rg ?_)
  repeat first|refine xAP ?_|refine sop ?_
  refine nl ?_
  rw [hk1, hk2]
  have hdl : ((xs.set a y0).set pivot x0).length = N := by simpa only [List.length_set] using hN
  generalize (xs.set a y0).set pivot x0 = ys at hdl
  have hyl := hdl
  obtain ⟨pv, hpv⟩ : ∃ x, ys[a]? = some x := ⟨_, List.getElem?_eq_getElem (by omega)⟩
  have hpv' := xAe (k := 0 + (a : Int).toNat) hpv (by omega)
  rw [gb hpv]
  have hjb : b - 1 < b := by omega
  obtain ⟨j, hj⟩ : ∃ j, j = b - 1 := ⟨_, rfl⟩
  have hje : (b : Int) - 1 = (j : Nat) := by omega
  rw [hje, ← hj]
  refine xCC (lvl := 1) (fun (g : Nat) => [(0, .own ⟨0, 0⟩ N 0 n), (1, .int .i64 a), (4, .fn 136 []), (13, .int .i64 (j : Nat)), (12, .int .i64 (g : Nat))]) (fun g => [(⟨0, 0⟩, blkV 2 (ys.map encS))]) (fun g => a + 1 ≤ g ∧ g ≤ b ∧ Sort.scanUp (fun x => ltS x pv) ys.toArray j (a + 1) = g) (xA0 ?_) ?_
  · refine xAE (fun (g : Nat) => [(0, .own ⟨0, 0⟩ N 0 n), (1, .int .i64 a), (4, .fn 136 []), (13, .int .i64 (j : Nat)), (12, .int .i64 (g : Nat))]) (fun g => [(⟨0, 0⟩, blkV 2 (ys.map encS))]) (fun g => b - g) (fun g => a + 1 ≤ g ∧ g ≤ b ∧ Sort.scanUp (fun x => ltS x pv) ys.toArray j g = Sort.scanUp (fun x => ltS x pv) ys.toArray j (a + 1)) (a + 1) goes ⟨Nat.le_refl _, by omega, rfl⟩ ?_
    rintro i2 ⟨h1, h2, hw⟩
    (try dsimp only)
    rw [Sort.scanUp] at hw
    by_cases hlt : i2 ≤ j
    · have d1 : decide ((i2 : Int) ≤ (j : Int)) = true := decide_eq_true (by omega)
      obtain ⟨x, hx⟩ : ∃ x, ys[i2]? = some x := ⟨_, List.getElem?_eq_getElem (by omega)⟩
      have hx' := xAe (k := 0 + (i2 : Int).toNat) hx (by omega)
      rw [gb hx] at hw
      repeat first|refine sgo ?_|refine xAJ ?_|refine cv0 (xB5 x pv) ?_|refine sop ?_
      refine cnd (fun h => xAB ?_) (fun h => xAD ?_)
      · rw [if_pos (by simp [hlt]; simpa [ltS] using h)] at hw
        repeat first|refine sgo ?_|refine sop ?_
        exact agn (i2 + 1) ⟨by omega, by omega, hw⟩ goes
      · rw [if_neg (by simp [hlt]; simpa [ltS] using h)] at hw
        exact ⟨i2, ⟨h1, h2, hw.symm⟩, goes⟩
    · have d1 : decide ((i2 : Int) ≤ (j : Int)) = false := decide_eq_false (by omega)
      rw [if_neg (by simp [hlt])] at hw
      repeat first|refine sgo ?_|refine sop ?_
      refine cndf (xAD ?_)
      exact ⟨i2, ⟨h1, h2, hw.symm⟩, goes⟩
  rintro i2 ⟨hi2, hib2, hu⟩
  (try dsimp only)
  refine xCC (lvl := 1) (fun (g : Nat) => [(0, .own ⟨0, 0⟩ N 0 n), (1, .int .i64 a), (4, .fn 136 []), (12, .int .i64 (i2 : Nat)), (13, .int .i64 (g : Nat))]) (fun g => [(⟨0, 0⟩, blkV 2 (ys.map encS))]) (fun g => g ≤ j ∧ Sort.scanDown (fun x => !ltS x pv) ys.toArray i2 j = g) (xA0 ?_) ?_
  · refine xAE (fun (g : Nat) => [(0, .own ⟨0, 0⟩ N 0 n), (1, .int .i64 a), (4, .fn 136 []), (12, .int .i64 (i2 : Nat)), (13, .int .i64 (g : Nat))]) (fun g => [(⟨0, 0⟩, blkV 2 (ys.map encS))]) (fun g => g) (fun g => g ≤ j ∧ Sort.scanDown (fun x => !ltS x pv) ys.toArray i2 g = Sort.scanDown (fun x => !ltS x pv) ys.toArray i2 j) j goes ⟨Nat.le_refl _, rfl⟩ ?_
    rintro j2 ⟨h1, hw⟩
    (try dsimp only)
    by_cases hlt : i2 ≤ j2
    · obtain ⟨m, rfl⟩ : ∃ m, j2 = m + 1 := ⟨j2 - 1, by omega⟩
      rw [Sort.scanDown] at hw
      have d1 : decide ((i2 : Int) ≤ ((m + 1 : Nat) : Int)) = true := decide_eq_true (by omega)
      obtain ⟨x, hx⟩ : ∃ x, ys[m + 1]? = some x := ⟨_, List.getElem?_eq_getElem (by omega)⟩
      have hx' := xAe (k := 0 + ((m + 1 : Nat) : Int).toNat) hx (by omega)
      rw [gb hx] at hw
      repeat first|refine sgo ?_|refine xAJ ?_|refine cv0 (xB5 x pv) ?_|refine sop ?_
      refine cnd (fun h => xAB ?_) (fun h => xAD ?_)
      · rw [if_pos (by simp [hlt]; simpa [ltS] using h)] at hw
        repeat first|refine sgo ?_|refine sop ?_
        exact agn m ⟨by omega, hw⟩ (goes (h1 := by refine ⟨rfl, rfl, rfl, rfl, congrArg (fun z => some (PV.int .i64 z)) (by omega), trivial⟩))
      · rw [if_neg (by simp [hlt]; simpa [ltS] using h)] at hw
        exact ⟨m + 1, ⟨h1, hw.symm⟩, goes⟩
    · have d1 : decide ((i2 : Int) ≤ (j2 : Int)) = false := decide_eq_false (by omega)
      have hz : Sort.scanDown (fun x => !ltS x pv) ys.toArray i2 j2 = j2 := by
        cases j2 with
        | zero => rfl
        | succ m => rw [Sort.scanDown, if_neg (by simp [hlt])]
      rw [hz] at hw
      repeat first|refine sgo ?_|refine sop ?_
      refine cndf (xAD ?_)
      exact ⟨j2, ⟨h1, hw.symm⟩, goes⟩
  rintro j2 ⟨hj2, hd⟩
  (try dsimp only)
  rw [hu, hd]
  repeat first|refine sgo ?_|refine sop ?_
  by_cases hgt : i2 > j2
  · refine cndt ?_ rfl (decide_eq_true (by omega))
    rw [if_pos hgt]
    obtain ⟨x, hx⟩ : ∃ x, ys[j2]? = some x := ⟨_, List.getElem?_eq_getElem (by omega)⟩
    obtain ⟨y, hy⟩ : ∃ y, ys[a]? = some y := ⟨_, List.getElem?_eq_getElem (by omega)⟩
    have hk1 : 0 + (j2 : Int).toNat = j2 := by omega
    have hk2 : 0 + (a : Int).toNat = a := by omega
    have hx' := xAe hx hk1
    have hy' := xAe hy hk2
    obtain rfl : y = pv := by rw [hpv] at hy; cases hy; rfl
    rw [xCK hx hy]
    repeat first|refine sgo ?_|refine xAJ ?_|refine o_v (vst encS y) ?_|refine o_v (vst encS x) ?_|refine sop ?_
    refine xAC ⟨.inr rfl, oL1 ?_⟩
    simp only [hk1, hk2]
  · refine cndf (xAB ?_) rfl (decide_eq_false (by omega))
    rw [if_neg hgt]
    clear hk1 hk2
    obtain ⟨x, hx⟩ : ∃ x, ys[i2]? = some x := ⟨_, List.getElem?_eq_getElem (by omega)⟩
    obtain ⟨y, hy⟩ : ∃ y, ys[j2]? = some y := ⟨_, List.getElem?_eq_getElem (by omega)⟩
    have hk1 : 0 + (i2 : Int).toNat = i2 := by omega
    have hk2 : 0 + (j2 : Int).toNat = j2 := by omega
    have hx' := xAe hx hk1
    have hy' := xAe hy hk2
    rw [xCK hx hy]
    refine xAb (rg ?_)
    repeat first|refine xAP ?_|refine xAJ ?_|refine o_v (vst encS y) ?_|refine o_v (vst encS x) ?_|refine sop ?_
    refine nl ?_
    refine xAb (rg ?_)
    repeat first|refine xAP ?_|refine sop ?_
    refine nl ?_
    refine xAb (rg ?_)
    repeat first|refine xAP ?_|refine sop ?_
    refine nl ?_
    rw [hk1, hk2]
    have hel : ((ys.set i2 y).set j2 x).length = N := by simpa only [List.length_set] using hyl
    generalize (ys.set i2 y).set j2 x = es at hel
    refine xCC (lvl := 1) (fun (g : Nat × List SpanL) => [(0, .own ⟨0, 0⟩ N 0 n), (1, .int .i64 a), (13, .int .i64 g.1)]) (fun g => [(⟨0, 0⟩, blkV 2 (g.2.map encS))]) (fun g => g.1 < b ∧ g.2.length = N ∧ (g.1, g.2.toArray) = Sort.partLoop ltS a (i2 + 1) (j2 - 1) es.toArray) (xA0 ?_) ?_
    · refine xAE (fun (g : Nat × Nat × List SpanL) => [(0, .own ⟨0, 0⟩ N 0 n), (1, .int .i64 a), (4, .fn 136 []), (12, .int .i64 g.1), (13, .int .i64 (g.2.1 : Nat))])
        (fun g => [(⟨0, 0⟩, blkV 2 (g.2.2.map encS))]) (fun g => g.2.1 + 1 - g.1)
        (fun g => a < g.1 ∧ g.1 ≤ b ∧ g.2.1 < b ∧ g.2.2.length = N ∧ Sort.partLoop ltS a g.1 g.2.1 g.2.2.toArray = Sort.partLoop ltS a (i2 + 1) (j2 - 1) es.toArray) (i2 + 1, j2 - 1, es)
        (goes (h1 := by refine ⟨rfl, rfl, rfl, rfl, congrArg (fun z => some (PV.int .i64 z)) (by simp only; omega), trivial⟩)) ⟨by simp only; omega, by simp only; omega, by simp only; omega, hel, rfl⟩ ?_
      generalize Sort.partLoop ltS a (i2 + 1) (j2 - 1) es.toArray = pl
      clear hk1 hk2 hx hy hx' hy' hu hd hpv hpv' hel hyl hdl hgt hi2 hib2 hj2 hjb hje hj hsw hx0 hy0
      rintro ⟨i, j, ys⟩ ⟨hai, hib, hjb, hyl, hv⟩
      dsimp only at hai hib hjb hyl hv ⊢
      obtain ⟨pv, hpv⟩ : ∃ x, ys[a]? = some x := ⟨_, List.getElem?_eq_getElem (by omega)⟩
      have hpv' := xAe (k := 0 + (a : Int).toNat) hpv (by omega)
      refine xA0 ?_
      refine xCC (lvl := 1) (fun (g : Nat) => [(0, .own ⟨0, 0⟩ N 0 n), (1, .int .i64 a), (4, .fn 136 []), (13, .int .i64 (j : Nat)), (12, .int .i64 (g : Nat))]) (fun g => [(⟨0, 0⟩, blkV 2 (ys.map encS))]) (fun g => i ≤ g ∧ g ≤ b ∧ Sort.scanUp (fun x => ltS x pv) ys.toArray j (i) = g) (xA0 ?_) ?_
      · refine xAE (fun (g : Nat) => [(0, .own ⟨0, 0⟩ N 0 n), (1, .int .i64 a), (4, .fn 136 []), (13, .int .i64 (j : Nat)), (12, .int .i64 (g : Nat))]) (fun g => [(⟨0, 0⟩, blkV 2 (ys.map encS))]) (fun g => b - g) (fun g => i ≤ g ∧ g ≤ b ∧ Sort.scanUp (fun x => ltS x pv) ys.toArray j g = Sort.scanUp (fun x => ltS x pv) ys.toArray j (i)) (i) goes ⟨Nat.le_refl _, hib, rfl⟩ ?_
        rintro i2 ⟨h1, h2, hw⟩
        (try dsimp only)
        rw [Sort.scanUp] at hw
        by_cases hlt : i2 ≤ j
        · have d1 : decide ((i2 : Int) ≤ (j : Int)) = true := decide_eq_true (by omega)
          obtain ⟨x, hx⟩ : ∃ x, ys[i2]? = some x := ⟨_, List.getElem?_eq_getElem (by omega)⟩
          have hx' := xAe (k := 0 + (i2 : Int).toNat) hx (by omega)
          rw [gb hx] at hw
          repeat first|refine sgo ?_|refine xAJ ?_|refine cv0 (xB5 x pv) ?_|refine sop ?_
          refine cnd (fun h => xAB ?_) (fun h => xAD ?_)
          · rw [if_pos (by simp [hlt]; simpa [ltS] using h)] at hw
            repeat first|refine sgo ?_|refine sop ?_
            exact agn (i2 + 1) ⟨by omega, by omega, hw⟩ goes
          · rw [if_neg (by simp [hlt]; simpa [ltS] using h)] at hw
            exact ⟨i2, ⟨h1, h2, hw.symm⟩, goes⟩
        · have d1 : decide ((i2 : Int) ≤ (j : Int)) = false := decide_eq_false (by omega)
          rw [if_neg (by simp [hlt])] at hw
          repeat first|refine sgo ?_|refine sop ?_
          refine cndf (xAD ?_)
          exact ⟨i2, ⟨h1, h2, hw.symm⟩, goes⟩
      rintro i2 ⟨hi2, hib2, hu⟩
      (try dsimp only)
      refine xCC (lvl := 1) (fun (g : Nat) => [(0, .own ⟨0, 0⟩ N 0 n), (1, .int .i64 a), (4, .fn 136 []), (12, .int .i64 (i2 : Nat)), (13, .int .i64 (g : Nat))]) (fun g => [(⟨0, 0⟩, blkV 2 (ys.map encS))]) (fun g => g ≤ j ∧ Sort.scanDown (fun x => !ltS x pv) ys.toArray i2 j = g) (xA0 ?_) ?_
      · refine xAE (fun (g : Nat) => [(0, .own ⟨0, 0⟩ N 0 n), (1, .int .i64 a), (4, .fn 136 []), (12, .int .i64 (i2 : Nat)), (13, .int .i64 (g : Nat))]) (fun g => [(⟨0, 0⟩, blkV 2 (ys.map encS))]) (fun g => g) (fun g => g ≤ j ∧ Sort.scanDown (fun x => !ltS x pv) ys.toArray i2 g = Sort.scanDown (fun x => !ltS x pv) ys.toArray i2 j) j goes ⟨Nat.le_refl _, rfl⟩ ?_
        rintro j2 ⟨h1, hw⟩
        (try dsimp only)
        by_cases hlt : i2 ≤ j2
        · obtain ⟨m, rfl⟩ : ∃ m, j2 = m + 1 := ⟨j2 - 1, by omega⟩
          rw [Sort.scanDown] at hw
          have d1 : decide ((i2 : Int) ≤ ((m + 1 : Nat) : Int)) = true := decide_eq_true (by omega)
          obtain ⟨x, hx⟩ : ∃ x, ys[m + 1]? = some x := ⟨_, List.getElem?_eq_getElem (by omega)⟩
          have hx' := xAe (k := 0 + ((m + 1 : Nat) : Int).toNat) hx (by omega)
          rw [gb hx] at hw
          repeat first|refine sgo ?_|refine xAJ ?_|refine cv0 (xB5 x pv) ?_|refine sop ?_
          refine cnd (fun h => xAB ?_) (fun h => xAD ?_)
          · rw [if_pos (by simp [hlt]; simpa [ltS] using h)] at hw
            repeat first|refine sgo ?_|refine sop ?_
            exact agn m ⟨by omega, hw⟩ (goes (h1 := by refine ⟨rfl, rfl, rfl, rfl, congrArg (fun z => some (PV.int .i64 z)) (by omega), trivial⟩))
          · rw [if_neg (by simp [hlt]; simpa [ltS] using h)] at hw
            exact ⟨m + 1, ⟨h1, hw.symm⟩, goes⟩
        · have d1 : decide ((i2 : Int) ≤ (j2 : Int)) = false := decide_eq_false (by omega)
          have hz : Sort.scanDown (fun x => !ltS x pv) ys.toArray i2 j2 = j2 := by
            cases j2 with
            | zero => rfl
            | succ m => rw [Sort.scanDown, if_neg (by simp [hlt])]
          rw [hz] at hw
          repeat first|refine sgo ?_|refine sop ?_
          refine cndf (xAD ?_)
          exact ⟨j2, ⟨h1, hw.symm⟩, goes⟩
      rintro j2 ⟨hj2, hd⟩
      (try dsimp only)
      rw [xQP (gb hpv) hu hd hi2 hj2] at hv
      repeat first|refine sgo ?_|refine sop ?_
      by_cases hgt : i2 > j2
      · refine cndt (xAD ?_) rfl (decide_eq_true (by omega))
        rw [if_pos hgt] at hv
        exact ⟨(j2, ys), ⟨by simp only; omega, hyl, hv⟩, goes⟩
      · refine cndf (xAB ?_) rfl (decide_eq_false (by omega))
        rw [if_neg hgt] at hv
        obtain ⟨x, hx⟩ : ∃ x, ys[i2]? = some x := ⟨_, List.getElem?_eq_getElem (by omega)⟩
        obtain ⟨y, hy⟩ : ∃ y, ys[j2]? = some y := ⟨_, List.getElem?_eq_getElem (by omega)⟩
        have hk1 : 0 + (i2 : Int).toNat = i2 := by omega
        have hk2 : 0 + (j2 : Int).toNat = j2 := by omega
        have hx' := xAe hx hk1
        have hy' := xAe hy hk2
        rw [xCK hx hy] at hv
        repeat first|refine sgo ?_|refine xAJ ?_|refine o_v (vst encS y) ?_|refine o_v (vst encS x) ?_|refine sop ?_
        exact agn (i2 + 1, j2 - 1, (ys.set (0 + (i2 : Int).toNat) y).set (0 + (j2 : Int).toNat) x) ⟨by simp only; omega, by simp only; omega, by simp only; omega, by simpa only [List.length_set] using hyl, by simp only [hk1, hk2]; exact hv⟩
          (goes (h1 := by refine ⟨rfl, rfl, rfl, rfl, congrArg (fun z => some (PV.int .i64 z)) (by simp only; omega), trivial⟩))
    · rintro ⟨r, zs⟩ ⟨hrb, hzl, hr⟩
      dsimp only at hrb hzl hr ⊢
      rw [← hr]
      simp only
      clear hk1 hk2 hx hy hx' hy' hyl
      obtain ⟨x, hx⟩ : ∃ x, zs[r]? = some x := ⟨_, List.getElem?_eq_getElem (by omega)⟩
      obtain ⟨y, hy⟩ : ∃ y, zs[a]? = some y := ⟨_, List.getElem?_eq_getElem (by omega)⟩
      have hk1 : 0 + (r : Int).toNat = r := by omega
      have hk2 : 0 + (a : Int).toNat = a := by omega
      have hx' := xAe hx hk1
      have hy' := xAe hy hk2
      rw [xCK hx hy]
      repeat first|refine sgo ?_|refine xAJ ?_|refine o_v (vst encS y) ?_|refine o_v (vst encS x) ?_|refine sop ?_
      refine xAC ⟨.inr rfl, oL1 ?_⟩
      simp only [hk1, hk2]
end Go.Proofs
open Go.V Go.Pu
set_option linter.unusedVariables false
set_option linter.unusedSimpArgs false
set_option maxRecDepth 20000
namespace Go.Proofs
def vc173 := vcm Tryz.prog 173
theorem vf173 : VF Tryz.prog 173 = some (148, vc173, []) := by kernel_rfl
theorem xNV {d d1 d2 d3 : Array SpanL} {a b limit l1 pivot : Nat} {wb wp fin : Bool} {c : Nat × Sort.Hint} {hint : Sort.Hint} (h12 : ¬ b - a ≤ 12) (hl : ¬ limit = 0)
    (e1 : (if (!wb) = true then Sort.breakPatterns d a b else d) = d1) (e2 : (if (!wb) = true then limit - 1 else limit) = l1) (e3 : Sort.choosePivot ltS d1 a b = c)
    (e4 : (if c.2 = .decreasing then Sort.reverseRange d1 a b else d1) = d2) (e5 : (if c.2 = .decreasing then (b - 1) - (c.1 - a) else c.1) = pivot) (e6 : (if c.2 = .decreasing then Sort.Hint.increasing else c.2) = hint)
    (e7 : (if (wb && wp && decide (hint = .increasing)) = true then Sort.partialInsertionSort ltS d2 a b else (d2, false)) = (d3, fin)) :
    Sort.pdq ltS d a b limit wb wp = if fin = true then d3 else
      if (decide (a > 0) && !ltS d3[a - 1]! d3[pivot]!) = true then
        (if a < (Sort.partitionEqual ltS d3 a b pivot).1 ∧ (Sort.partitionEqual ltS d3 a b pivot).1 ≤ b then Sort.pdq ltS (Sort.partitionEqual ltS d3 a b pivot).2 (Sort.partitionEqual ltS d3 a b pivot).1 b l1 wb wp else (Sort.partitionEqual ltS d3 a b pivot).2)
      else
        (if a ≤ (Sort.partition ltS d3 a b pivot).1 ∧ (Sort.partition ltS d3 a b pivot).1 < b then
          (if (Sort.partition ltS d3 a b pivot).1 - a < b - (Sort.partition ltS d3 a b pivot).1 then
            Sort.pdq ltS (Sort.pdq ltS (Sort.partition ltS d3 a b pivot).2.2 a (Sort.partition ltS d3 a b pivot).1 l1 true true) ((Sort.partition ltS d3 a b pivot).1 + 1) b l1 (decide ((Sort.partition ltS d3 a b pivot).1 - a ≥ (b - a) / 8)) (Sort.partition ltS d3 a b pivot).2.1
          else Sort.pdq ltS (Sort.pdq ltS (Sort.partition ltS d3 a b pivot).2.2 ((Sort.partition ltS d3 a b pivot).1 + 1) b l1 true true) a (Sort.partition ltS d3 a b pivot).1 l1 (decide (b - (Sort.partition ltS d3 a b pivot).1 ≥ (b - a) / 8)) (Sort.partition ltS d3 a b pivot).2.1)
        else (Sort.partition ltS d3 a b pivot).2.2) := by
  rw [Sort.pdq, if_neg h12, if_neg hl]
  simp only [e1, e2, e3, e4, e5, e6, e7]
  rfl
theorem xNW : ∀ (m : Nat) (d : Array SpanL) (a b limit : Nat) (wb wp : Bool), b - a = m → (Sort.pdq ltS d a b limit wb wp).size = d.size := by
  intro m
  induction m using Nat.strongRecOn with
  | _ m ih =>
  intro d a b limit wb wp hm
  by_cases h12 : b - a ≤ 12
  · rw [Sort.pdq, if_pos h12]; exact xKe _ _ _ _ _
  by_cases hl : limit = 0
  · rw [Sort.pdq, if_neg h12, if_pos hl]; exact xKj _ _ _ _
  obtain ⟨d1, e1⟩ : ∃ d1, (if (!wb) = true then Sort.breakPatterns d a b else d) = d1 := ⟨_, rfl⟩
  obtain ⟨l1, e2⟩ : ∃ l1, (if (!wb) = true then limit - 1 else limit) = l1 := ⟨_, rfl⟩
  obtain ⟨c, e3⟩ : ∃ c, Sort.choosePivot ltS d1 a b = c := ⟨_, rfl⟩
  obtain ⟨d2, e4⟩ : ∃ d2, (if c.2 = .decreasing then Sort.reverseRange d1 a b else d1) = d2 := ⟨_, rfl⟩
  obtain ⟨pivot, e5⟩ : ∃ p, (if c.2 = .decreasing then (b - 1) - (c.1 - a) else c.1) = p := ⟨_, rfl⟩
  obtain ⟨hint, e6⟩ : ∃ h, (if c.2 = .decreasing then Sort.Hint.increasing else c.2) = h := ⟨_, rfl⟩
  obtain ⟨⟨d3, fin⟩, e7⟩ : ∃ r : Array SpanL × Bool, (if (wb && wp && decide (hint = .increasing)) = true then Sort.partialInsertionSort ltS d2 a b else (d2, false)) = r := ⟨_, rfl⟩
  have h1 : d1.size = d.size := by rw [← e1]; split <;> simp [xO8]
  have h2 : d2.size = d.size := by rw [← e4]; split <;> simp [xLM, h1]
  have h3 : d3.size = d.size := by
    have : (if (wb && wp && decide (hint = .increasing)) = true then Sort.partialInsertionSort ltS d2 a b else (d2, false)).1.size = d.size := by
      split
      · exact (xDG ltS a b 5 (a + 1) d2).trans h2
      · exact h2
    rw [e7] at this; exact this
  rw [xNV h12 hl e1 e2 e3 e4 e5 e6 e7]
  split
  · exact h3
  · split
    · split
      · rename_i h
        rw [ih _ (by omega) _ _ _ _ _ _ rfl, xDF, h3]
      · rw [xDF, h3]
    · split
      · rename_i h
        split
        · rw [ih _ (by omega) _ _ _ _ _ _ rfl, ih _ (by omega) _ _ _ _ _ _ rfl, xDj, h3]
        · rw [ih _ (by omega) _ _ _ _ _ _ rfl, ih _ (by omega) _ _ _ _ _ _ rfl, xDj, h3]
      · rw [xDj, h3]
set_option maxHeartbeats 8000000 in
theorem pdq_vc {N n : Nat} (hn : n ≤ N) (hm : N ≤ 60000) : ∀ (m : Nat) (xs : List SpanL) (a b limit : Nat), b - a = m → xs.length = N → a ≤ b → b ≤ n → limit ≤ 100 →
    VC Tryz.prog 173 [.own ⟨0, 0⟩ N 0 n, .int .i64 a, .int .i64 b, .int .i64 limit, .fn 136 []] [blkV 2 (xs.map encS)] (.tup []) (srt (Sort.pdq ltS xs.toArray a b limit true true)) := by
  intro m
  induction m using Nat.strongRecOn with
  | _ m ih =>
  intro xs a0 b0 limit0 hm0 hN hab0 hb0 hl0
  refine xBV vf173 ?_ (Nat.le_of_ble_eq_true rfl) (by intro vs h; cases h; simp)
  generalize htar : Sort.pdq ltS xs.toArray a0 b0 limit0 true true = tar
  repeat first|refine sgo ?_|refine sop ?_
  refine xAE (fun (g : Nat × Nat × Nat × Bool × Bool × List SpanL) => [(0, .own ⟨0, 0⟩ N 0 n), (1, .int .i64 g.1), (2, .int .i64 (g.2.1 : Nat)), (3, .int .i64 (g.2.2.1 : Nat)), (4, .fn 136 []), (10, .bool g.2.2.2.1), (11, .bool g.2.2.2.2.1)])
    (fun g => [(⟨0, 0⟩, blkV 2 (g.2.2.2.2.2.map encS))]) (fun g => g.2.1 - g.1)
    (fun g => g.1 ≤ g.2.1 ∧ g.2.1 ≤ n ∧ g.2.2.1 ≤ 100 ∧ g.2.1 - g.1 ≤ m ∧ g.2.2.2.2.2.length = N ∧ Sort.pdq ltS g.2.2.2.2.2.toArray g.1 g.2.1 g.2.2.1 g.2.2.2.1 g.2.2.2.2.1 = tar) (a0, b0, limit0, true, true, xs)
    goes ⟨hab0, hb0, hl0, by simp only; omega, hN, htar⟩ ?_
  rintro ⟨a, b, lim, wb, wp, ys⟩ ⟨hab, hbn, hlim, hbm, hyl, hv⟩
  dsimp only at hab hbn hlim hbm hyl hv ⊢
  refine xA0 ?_
  repeat first|refine sgo ?_|refine sop ?_
  by_cases h12 : b - a ≤ 12
  · refine cndt ?_ rfl (decide_eq_true (by omega))
    rw [Sort.pdq, if_pos h12] at hv
    subst hv
    repeat first|refine sgo ?_|refine cl (lent := [⟨0, 0⟩]) (ins_vc (n := n) ys a b hyl (by omega) hbn hn (by omega)) ?_|refine sop ?_
    exact xAC ⟨.inr rfl, oL1 rfl⟩
  refine cndf (xAB ?_) rfl (decide_eq_false (by omega))
  repeat first|refine sgo ?_|refine sop ?_
  by_cases hl : lim = 0
  · refine cndt ?_ rfl (by simp [hl])
    rw [Sort.pdq, if_neg h12, if_pos hl] at hv
    subst hv
    repeat first|refine sgo ?_|refine cl (lent := [⟨0, 0⟩]) (xVv (n := n) ys a b hyl (by omega) hbn hn (by omega)) ?_|refine sop ?_
    exact xAC ⟨.inr rfl, oL1 rfl⟩
  refine cndf (xAB ?_) rfl (by simp; omega)
  obtain ⟨d1, e1⟩ : ∃ d1, (if (!wb) = true then Sort.breakPatterns ys.toArray a b else ys.toArray) = d1 := ⟨_, rfl⟩
  obtain ⟨l1, e2⟩ : ∃ l1, (if (!wb) = true then lim - 1 else lim) = l1 := ⟨_, rfl⟩
  have hl1 : l1 ≤ 100 := by rw [← e2]; split <;> omega
  have hs1 : d1.size = N := by
    rw [← e1]
    split
    · rw [(Sort.breakPatterns_holds ys.toArray a b hab (by simp; omega)).1]; simpa using hyl
    · simpa using hyl
  refine xCC (lvl := 1) (fun (g : List SpanL) => [(0, .own ⟨0, 0⟩ N 0 n), (1, .int .i64 a), (2, .int .i64 b), (3, .int .i64 l1), (4, .fn 136 []), (10, .bool wb), (11, .bool wp), (12, .int .i64 ((b : Int) - a))])
    (fun g => [(⟨0, 0⟩, blkV 2 (g.map encS))]) (fun g => g.toArray = d1) ?_ ?_
  · repeat first|refine sgo ?_|refine sop ?_
    cases wb with
    | true =>
      refine cndf (xAB ?_)
      have : l1 = lim := e2.symm
      subst this
      exact ⟨ys, e1, goes⟩
    | false =>
      refine cndt ?_
      repeat first|refine sgo ?_|refine cl (lent := [⟨0, 0⟩]) (xTl (n := n) ys a b hyl hab hbn hn (by omega)) ?_|refine sop ?_
      refine ⟨d1.toList, by simp, goes (h1 := by
        refine ⟨rfl, rfl, rfl, congrArg (fun z => some (PV.int .i64 z)) (?_ : (lim : Int) - 1 = (l1 : Nat)), rfl, rfl, rfl, rfl, trivial⟩
        have : lim - 1 = l1 := e2
        omega) (h2 := ?_)⟩
      refine ⟨?_, trivial⟩
      have : Sort.breakPatterns ys.toArray a b = d1 := e1
      rw [← this]; rfl
  rintro ys1 hy1
  (try dsimp only)
  have hy1l : ys1.length = N := by have := congrArg Array.size hy1; simp at this; omega
  have hcb := Sort.choosePivot_holds ltS d1 a b (by omega)
  obtain ⟨c, e3⟩ : ∃ c, Sort.choosePivot ltS d1 a b = c := ⟨_, rfl⟩
  rw [e3] at hcb
  have hcv := xRl (n := n) ys1 a b hy1l (by omega) hbn hn hm
  rw [hy1, e3] at hcv
  refine xAb (rg ?_)
  repeat first|refine xAP ?_|refine cl (lent := [⟨0, 0⟩]) hcv ?_|refine sop ?_
  refine nl ?_
  obtain ⟨d2, e4⟩ : ∃ d2, (if c.2 = .decreasing then Sort.reverseRange d1 a b else d1) = d2 := ⟨_, rfl⟩
  obtain ⟨pivot, e5⟩ : ∃ p, (if c.2 = .decreasing then (b - 1) - (c.1 - a) else c.1) = p := ⟨_, rfl⟩
  obtain ⟨hint, e6⟩ : ∃ h, (if c.2 = .decreasing then Sort.Hint.increasing else c.2) = h := ⟨_, rfl⟩
  have hp1 : a ≤ pivot := by rw [← e5]; split <;> omega
  have hp2 : pivot < b := by rw [← e5]; split <;> omega
  have hs2 : d2.size = N := by
    rw [← e4]
    split
    · rw [(Sort.reverseRange_holds d1 a b hab (by omega)).1]; exact hs1
    · exact hs1
  refine xCC (lvl := 1) (fun (g : List SpanL) => [(0, .own ⟨0, 0⟩ N 0 n), (1, .int .i64 a), (2, .int .i64 b), (3, .int .i64 l1), (4, .fn 136 []), (10, .bool wb), (11, .bool wp), (12, .int .i64 ((b : Int) - a)), (13, .int .i64 pivot), (14, .int .i64 (hintI hint))])
    (fun g => [(⟨0, 0⟩, blkV 2 (g.map encS))]) (fun g => g.toArray = d2) ?_ ?_
  · repeat first|refine sgo ?_|refine sop ?_
    by_cases hdec : c.2 = .decreasing
    · rw [if_pos hdec] at e4 e5 e6
      refine cndt ?_ rfl (by rw [hdec]; rfl)
      have hrv := xOh (n := n) ys1 a b hy1l (by omega) hbn hn hm
      repeat first|refine sgo ?_|refine cl (lent := [⟨0, 0⟩]) hrv ?_|refine sop ?_
      refine ⟨d2.toList, by simp, goes (h1 := by
        refine ⟨rfl, rfl, rfl, rfl, rfl, rfl, rfl, rfl, congrArg (fun z => some (PV.int .i64 z)) (?_ : (b : Int) - 1 - ((c.1 : Int) - a) = (pivot : Nat)), ?_, trivial⟩
        · omega
        · rw [← e6]; rfl) (h2 := ?_)⟩
      refine ⟨?_, trivial⟩
      rw [← e4, ← hy1]; rfl
    · rw [if_neg hdec] at e4 e5 e6
      refine cndf (xAB ?_) rfl (by revert hdec; cases c.2 <;> intro h <;> first | rfl | exact absurd rfl h)
      subst e5 e6
      exact ⟨ys1, hy1.trans e4, goes⟩
  rintro ys2 hy2
  (try dsimp only)
  have hy2l : ys2.length = N := by have := congrArg Array.size hy2; simp at this; omega
  obtain ⟨⟨d3, fin⟩, e7⟩ : ∃ r : Array SpanL × Bool, (if (wb && wp && decide (hint = .increasing)) = true then Sort.partialInsertionSort ltS d2 a b else (d2, false)) = r := ⟨_, rfl⟩
  rw [xNV h12 hl e1 e2 e3 e4 e5 e6 e7] at hv
  have hs3 : d3.size = N := by
    have : (if (wb && wp && decide (hint = .increasing)) = true then Sort.partialInsertionSort ltS d2 a b else (d2, false)).1.size = N := by
      split
      · exact (xDG ltS a b 5 (a + 1) d2).trans hs2
      · exact hs2
    rw [e7] at this; exact this
  clear e1 e2 e3 e4 e5 e6
  refine xCC (lvl := 1) (fun (g : List SpanL) => [(0, .own ⟨0, 0⟩ N 0 n), (1, .int .i64 a), (2, .int .i64 b), (3, .int .i64 l1), (4, .fn 136 []), (10, .bool wb), (11, .bool wp), (12, .int .i64 ((b : Int) - a)), (13, .int .i64 pivot)])
    (fun g => [(⟨0, 0⟩, blkV 2 (g.map encS))]) (fun g => g.toArray = d3 ∧ fin = false) ?_ ?_
  · by_cases hcnd : (wb && wp && decide (hint = .increasing)) = true
    · rw [if_pos hcnd] at e7
      simp only [Bool.and_eq_true, decide_eq_true_eq] at hcnd
      obtain ⟨⟨rfl, rfl⟩, rfl⟩ := hcnd
      have hpi := xVH (n := n) ys2 a b hy2l (by omega) hbn hn hm
      rw [hy2, e7] at hpi
      repeat first|refine sgo ?_|refine sop ?_
      refine cndt ?_
      repeat first|refine sgo ?_|refine cl (lent := [⟨0, 0⟩]) hpi ?_|refine sop ?_
      refine cnd (fun hf => ?_) (fun hf => xAB ?_)
      · dsimp only at hf
        subst hf
        rw [if_pos rfl] at hv
        subst hv
        exact xAC ⟨.inr rfl, oL1 rfl⟩
      · exact ⟨d3.toList, ⟨by simp, hf⟩, goes⟩
    · rw [if_neg hcnd] at e7
      cases e7
      cases wb with
      | false =>
        repeat first|refine sgo ?_|refine sop ?_
        refine cndf (xAB ?_)
        exact ⟨ys2, ⟨hy2, rfl⟩, goes⟩
      | true =>
        cases wp with
        | false =>
          repeat first|refine sgo ?_|refine sop ?_
          refine cndf (xAB ?_)
          exact ⟨ys2, ⟨hy2, rfl⟩, goes⟩
        | true =>
          repeat first|refine sgo ?_|refine sop ?_
          refine cndf (xAB ?_) rfl (by revert hcnd; cases hint <;> intro h <;> first | rfl | exact absurd rfl h)
          exact ⟨ys2, ⟨hy2, rfl⟩, goes⟩
  rintro ys3 ⟨hy3, rfl⟩
  rw [if_neg (by decide)] at hv
  (try dsimp only)
  have hy3l : ys3.length = N := by have := congrArg Array.size hy3; simp at this; omega
  have hq := xKG (k := .i64) (n := b - a) (m := 8) (z := (b : Int) - a) (by omega) (by omega) (xB0 (by omega) (by omega))
  clear e7 hs2 hs1 hy1l hy1 hy2l hy2 hcv hcb
  refine xCC (lvl := 1) (fun (_ : Unit) => [(0, .own ⟨0, 0⟩ N 0 n), (1, .int .i64 a), (2, .int .i64 b), (3, .int .i64 l1), (4, .fn 136 []), (10, .bool wb), (11, .bool wp), (12, .int .i64 ((b : Int) - a)), (13, .int .i64 pivot)])
    (fun _ => [(⟨0, 0⟩, blkV 2 (ys3.map encS))]) (fun _ => (decide (a > 0) && !ltS d3[a - 1]! d3[pivot]!) = false) ?_ ?_
  · have eqc : ∀ (h : (decide (a > 0) && !ltS d3[a - 1]! d3[pivot]!) = true), Sort.pdq ltS (Sort.partitionEqual ltS d3 a b pivot).2 (Sort.partitionEqual ltS d3 a b pivot).1 b l1 wb wp = tar := by
      intro h
      rw [if_pos h] at hv
      obtain ⟨g1, g2, g3⟩ := xLS ltS (d := d3) hp1 hp2 (by omega)
      rw [if_pos ⟨g1, g2⟩] at hv
      exact hv
    by_cases ha : a > 0
    · have dA : decide ((a : Int) > 0) = true := decide_eq_true (by omega)
      obtain ⟨x, hx⟩ : ∃ x, ys3[a - 1]? = some x := ⟨_, List.getElem?_eq_getElem (by omega)⟩
      obtain ⟨y, hy⟩ : ∃ y, ys3[pivot]? = some y := ⟨_, List.getElem?_eq_getElem (by omega)⟩
      have hx' := xAe (k := 0 + ((a : Int) - 1).toNat) hx (by omega)
      have hy' := xAe (k := 0 + (pivot : Int).toNat) hy (by omega)
      have hxy : (decide (a > 0) && !ltS d3[a - 1]! d3[pivot]!) = !ltS x y := by rw [← hy3, gb hx, gb hy]; simp [ha]
      repeat first|refine sgo ?_|refine xAJ ?_|refine cv0 (xB5 x y) ?_|refine sop ?_
      refine cnd (fun hc => ?_) (fun hc => xAB ?_)
      · have hv2 := eqc (hxy.trans (by simpa [ltS] using hc))
        obtain ⟨g1, g2, g3⟩ := xLS ltS (d := d3) hp1 hp2 (by omega)
        have hpe := xQO (n := n) ys3 a b pivot hy3l hp1 hp2 hbn hn hm
        rw [hy3] at hpe
        generalize Sort.partitionEqual ltS d3 a b pivot = pe at hv2 g1 g2 g3 hpe
        repeat first|refine sgo ?_|refine cl (lent := [⟨0, 0⟩]) hpe ?_|refine sop ?_
        refine xAD ?_
        exact ⟨(pe.1, b, l1, wb, wp, pe.2.toList), by simp only; omega, ⟨g2, hbn, hl1, by simp only; omega, by simp; omega, by simpa using hv2⟩, goes⟩
      · exact ⟨(), hxy.trans (by simpa [ltS] using hc), goes⟩
    · have dA : decide ((a : Int) > 0) = false := decide_eq_false (by omega)
      repeat first|refine sgo ?_|refine sop ?_
      refine cndf (xAB ?_)
      exact ⟨(), by simp [ha], goes⟩
  rintro _ hne
  (try dsimp only)
  rw [if_neg (by rw [hne]; decide)] at hv
  obtain ⟨g1, g2, g3, _⟩ := Sort.partition_holds ltS xQu d3 a b pivot hp1 hp2 (by omega)
  have hpt := xVK (n := n) ys3 a b pivot hy3l hp1 hp2 hbn hn hm
  rw [hy3] at hpt
  have gs := g3.1
  rw [if_pos ⟨g1, g2⟩] at hv
  generalize Sort.partition ltS d3 a b pivot = pt at hv g1 g2 gs hpt
  obtain ⟨mid, ap, d4⟩ := pt
  dsimp only at hv g1 g2 gs hpt
  repeat first|refine sgo ?_|refine cl (lent := [⟨0, 0⟩]) hpt ?_|refine xBE hq ?_|refine sop ?_
  by_cases hlt : mid - a < b - mid
  · rw [if_pos hlt] at hv
    refine cndt ?_ rfl (decide_eq_true (by omega))
    have hrec := ih (mid - a) (by omega) d4.toList a mid l1 rfl (by simp; omega) g1 (by omega) hl1
    have hps : (Sort.pdq ltS d4 a mid l1 true true).size = N := by
      rw [xNW _ _ _ _ _ _ _ rfl]; omega
    rw [Array.toArray_toList] at hrec
    repeat first|refine sgo ?_|refine cl (lent := [⟨0, 0⟩]) hrec ?_|refine sop ?_
    refine agn (mid + 1, b, l1, decide (mid - a ≥ (b - a) / 8), ap, (Sort.pdq ltS d4 a mid l1 true true).toList) ⟨by simp only; omega, hbn, hl1, by simp only; omega, by simpa using hps, by simpa using hv⟩ (goes (h1 := ?_))
    refine ⟨rfl, rfl, rfl, rfl, rfl, congrArg (fun z => some (PV.bool z)) (decide_eq_decide.2 ?_), rfl, trivial⟩
    omega
  · rw [if_neg hlt] at hv
    refine cndf ?_ rfl (decide_eq_false (by omega))
    have hrec := ih (b - (mid + 1)) (by omega) d4.toList (mid + 1) b l1 rfl (by simp; omega) (by omega) hbn hl1
    have hps : (Sort.pdq ltS d4 (mid + 1) b l1 true true).size = N := by
      rw [xNW _ _ _ _ _ _ _ rfl]; omega
    rw [Array.toArray_toList] at hrec
    repeat first|refine sgo ?_|refine cl (lent := [⟨0, 0⟩]) hrec ?_|refine sop ?_
    refine agn (a, mid, l1, decide (b - mid ≥ (b - a) / 8), ap, (Sort.pdq ltS d4 (mid + 1) b l1 true true).toList) ⟨g1, by simp only; omega, hl1, by simp only; omega, by simpa using hps, by simpa using hv⟩ (goes (h1 := ?_))
    refine ⟨rfl, rfl, rfl, rfl, rfl, congrArg (fun z => some (PV.bool z)) (decide_eq_decide.2 ?_), rfl, trivial⟩
    omega
end Go.Proofs
open Go.V Go.Pu
set_option linter.unusedVariables false
set_option linter.unusedSimpArgs false
set_option maxRecDepth 20000
namespace Go.Proofs
def vc135 := vcm Tryz.prog 135
theorem vf135 : VF Tryz.prog 135 = some (14, vc135, []) := by kernel_rfl
theorem xUu {N n : Nat} (xs : List SpanL) (hN : xs.length = N) (hn : n ≤ N) (hm : N ≤ 60000) :
    VC Tryz.prog 135 [.own ⟨0, 0⟩ N 0 n, .fn 136 []] [blkV 2 (xs.map encS)] (.tup []) (srt (Sort.pdq ltS xs.toArray 0 n (Sort.bitsLen n) true true)) := by
  refine xBV vf135 ?_ (Nat.le_of_ble_eq_true rfl) (by intro vs h; cases h; simp)
  have hw := xHk (n := n) (by omega)
  have hb := xRu (n := n) (by omega)
  have hc := pdq_vc (n := n) hn hm n xs 0 n (Sort.bitsLen n) rfl hN (Nat.zero_le _) (Nat.le_refl _) (by omega)
  repeat first|refine sgo ?_|refine xBN ?_|refine cv0 (xUD (n := n) (by omega)) ?_|refine cl (lent := [⟨0, 0⟩]) hc ?_|refine sop ?_
  exact ⟨.inl rfl, oL1 rfl⟩
end Go.Proofs
