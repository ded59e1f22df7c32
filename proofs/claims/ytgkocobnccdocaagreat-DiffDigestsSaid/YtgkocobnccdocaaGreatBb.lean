/- Bb -/
import Derived.Test.YtgkocobnccdocaaGreatBa
import Derived.Test.YtgkocobnccdocaaGreatVD
open Go.V Go.Pu
set_option linter.unusedVariables false
set_option linter.unusedSimpArgs false
set_option maxRecDepth 20000
namespace Go.Proofs
def vc23 := vcm Tryz.prog 23
theorem vf23 : VF Tryz.prog 23 = some (38, vc23, [.tmp 2]) := by kernel_rfl
def vc24 := vcm Tryz.prog 24
theorem vf24 : VF Tryz.prog 24 = some (60, vc24, [.tmp 2]) := by kernel_rfl
def vc38 := vcm Tryz.prog 38
theorem vf38 : VF Tryz.prog 38 = some (20, vc38, [.tmp 2]) := by kernel_rfl
def vc51 := vcm Tryz.prog 51
theorem vf51 : VF Tryz.prog 51 = some (27, vc51, []) := by kernel_rfl
def vc52 := vcm Tryz.prog 52
theorem vf52 : VF Tryz.prog 52 = some (18, vc52, []) := by kernel_rfl
def vc53 := vcm Tryz.prog 53
theorem vf53 : VF Tryz.prog 53 = some (19, vc53, [.tmp 2]) := by kernel_rfl
def vc54 := vcm Tryz.prog 54
theorem vf54 : VF Tryz.prog 54 = some (23, vc54, [.tmp 4]) := by kernel_rfl
theorem wu64 (n : Nat) : IntKind.u64.wrap (n : Int) = ((n % 2 ^ 64 : Nat) : Int) := by
  simp [IntKind.wrap, IntKind.bits, IntKind.signed]
theorem wu8 (n : Nat) : IntKind.u8.wrap (n : Int) = ((n % 256 : Nat) : Int) := by
  simp [IntKind.wrap, IntKind.bits, IntKind.signed]
theorem xJ2 {n : Nat} (h : n < 2 ^ 64) : IntKind.u64.wrap (n : Int) = (n : Int) := by rw [wu64, Nat.mod_eq_of_lt h]
theorem shrB {n : Nat} {i : Int} (j : Nat) (hi : i = 8 * (j : Int)) (hj : j < 8) : bin .shr (.int .u64 (n : Int)) (.int .i64 i) = some (.int .u64 ((n / 2 ^ (8 * j) : Nat) : Int)) := by
  subst hi
  show (if 8 * (j : Int) < 0 then none else some (PV.int .u64 ((n : Int).fdiv (2 ^ (min (8 * (j : Int)).toNat 64))))) = _
  rw [if_neg (by omega)]
  have e : min (8 * (j : Int)).toNat 64 = 8 * j := by omega
  rw [e, Int.fdiv_eq_ediv_of_nonneg _ (Int.le_of_lt (Int.pow_pos (by decide)))]
  simp
theorem cvB (n : Nat) : IntKind.u8.wrap (n : Int) = ((UInt8.ofNat n).toNat : Int) := by
  rw [wu8]; simp
theorem xorB (h : BitVec 64) (x : UInt8) : bin .xor (.int .u64 (h.toNat : Int)) (.int .u64 (x.toNat : Int)) = some (.int .u64 (((h ^^^ BitVec.ofNat 64 x.toNat).toNat : Nat) : Int)) := by
  show some (PV.int .u64 (IntKind.u64.wrap ((BitVec.ofInt 64 (h.toNat : Int) ^^^ BitVec.ofInt 64 (x.toNat : Int)).toNat : Int))) = _
  have e1 : BitVec.ofInt 64 (h.toNat : Int) = h := by rw [BitVec.ofInt_natCast, BitVec.ofNat_toNat]; simp
  have e2 : BitVec.ofInt 64 (x.toNat : Int) = BitVec.ofNat 64 x.toNat := by rw [BitVec.ofInt_natCast]
  rw [e1, e2, xJ2 (h ^^^ BitVec.ofNat 64 x.toNat).isLt]
theorem mulB (h : BitVec 64) : bin .mul (.int .u64 (h.toNat : Int)) (.int .u64 1099511628211) = some (.int .u64 (((h * 1099511628211#64).toNat : Nat) : Int)) := by
  show some (PV.int .u64 (IntKind.u64.wrap ((h.toNat : Int) * 1099511628211))) = _
  have e : ((h.toNat : Int) * 1099511628211) = ((h.toNat * 1099511628211 : Nat) : Int) := by simp
  rw [e, wu64, BitVec.toNat_mul]
  rfl
abbrev wbx (l : List UInt8) : List Blk := [⟨true, false, 1, [[ownV ⟨0, 1⟩ (l.map encB)]]⟩, blkV 1 (l.map encB)]
set_option maxHeartbeats 1000000 in
theorem xMJ {n w : Nat} (hn : n < 2 ^ 64) (hw : w ≤ 8) {l : List UInt8} (hl : l.length ≤ 1000000000) : VC Tryz.prog 51 [.ptr ⟨0, 0⟩ 1 0 0, .int .u64 (n : Int), .int .i64 (w : Int)] (wbx l) (.tup []) (wbx (l ++ numB n w)) := by
  refine xBV vf51 ?_ (Nat.le_of_ble_eq_true rfl) (by intro vs h; cases h; simp)
  repeat first|refine sgo ?_|refine sop ?_
  refine xAE (fun (g : Nat × List UInt8) => [(0, .ptr ⟨0, 0⟩ 1 0 0), (1, .int .u64 (n : Int)), (6, .int .i64 ((g.1 : Int) - 1))]) (fun g => [(⟨0, 0⟩, ⟨true, false, 1, [[ownV ⟨0, 1⟩ (g.2.map encB)]]⟩), (⟨0, 1⟩, blkV 1 (g.2.map encB))]) (fun g => g.1)
    (fun g => g.1 ≤ w ∧ g.2 ++ numB n g.1 = l ++ numB n w ∧ g.2.length + g.1 ≤ 1000000008) (w, l) xAi ⟨Nat.le_refl _, rfl, by simp only; omega⟩ ?_
  rintro ⟨j, o⟩ ⟨hj, hv, ho⟩
  dsimp only at hj hv ho ⊢
  repeat first|refine sgo ?_|refine sop ?_
  refine cnd (fun h => xAB ?_) (fun h => xAD ?_)
  · obtain ⟨i, rfl⟩ : ∃ i, j = i + 1 := ⟨j - 1, by have h' := of_decide_eq_true h; omega⟩
    rw [numB] at hv
    have hs := shrB (n := n) (i := 8 * (((i + 1 : Nat) : Int) - 1)) i (by omega) (by omega)
    have hc := cvB (n / 2 ^ (8 * i))
    repeat first|refine sgo ?_|refine xBE hs ?_|refine xBN ?_|refine o_v (vap encB (UInt8.ofNat (n / 2 ^ (8 * i)))) ?_|refine sop ?_
    refine agn (Q := fun _ _ => True) (i, o ++ [UInt8.ofNat (n / 2 ^ (8 * i))]) ⟨by simp only; omega, by rw [← hv]; simp, by simp only [List.length_append, List.length_cons, List.length_nil]; omega⟩ (xAi (h1 := by refine ⟨rfl, rfl, ?_, trivial⟩; exact congrArg (fun z => some (PV.int .i64 z)) (by simp only; omega)))
  · have h0 : j = 0 := by have h' := of_decide_eq_false h; omega
    subst h0
    rw [numB, List.append_nil] at hv
    rw [← hv]
    exact ⟨.inl rfl, oG []⟩
theorem xM9 {s : Str} (hs : s.length ≤ 1000000) {l : List UInt8} (hl : l.length ≤ 900000000) : VC Tryz.prog 52 [.ptr ⟨0, 0⟩ 1 0 0, .str s] (wbx l) (.tup []) (wbx (l ++ numB s.length 4 ++ s)) := by
  have hn := xMJ (n := s.length) (w := 4) (by omega) (by omega) (l := l) (by omega)
  have hc : IntKind.u64.wrap (s.length : Int) = (s.length : Int) := xJ2 (by omega)
  have hnl : (numB s.length 4).length = 4 := by simp [numB]
  have hb : (l ++ numB s.length 4).length ≤ 900000004 := by rw [List.length_append]; omega
  refine xBV vf52 ?_ (Nat.le_of_ble_eq_true rfl) (by intro vs h; cases h; simp)
  repeat first|refine sgo ?_|refine xBN ?_|refine cl (lent := [⟨0, 0⟩, ⟨0, 1⟩]) hn ?_|refine o_v (vaps encB (l ++ numB s.length 4) s) ?_|refine sop ?_
  exact ⟨.inl rfl, oG []⟩
def chk (l : List UInt8) (h : BitVec 64) : BitVec 64 := l.foldl xK9 h
theorem xOH {l : List UInt8} {i : Nat} {x : UInt8} (h : l[i]? = some x) (a : BitVec 64) : chk (l.take (i + 1)) a = (chk (l.take i) a ^^^ BitVec.ofNat 64 x.toNat) * 1099511628211#64 := by
  unfold chk
  rw [List.take_add_one, h, List.foldl_append]
  rfl
theorem xRo {q : PV} {l : List UInt8} (hq : Sl q (l.map encB)) (hl : l.length ≤ 1000000000) : VC Tryz.prog 53 [q] [] (.int .u64 ((xJx l).toNat : Nat)) [] := by
  have hml : (l.map encB).length = l.length := List.length_map _
  refine vcs vf53 ?_
  repeat first|refine sgo ?_|refine sop ?_
  refine xAE (fun (g : Nat) => (if 53 = 53 then [(6, q), (7, .int .i64 (l.map encB).length)] else [(0, q)]) ++ [(3, .int .u64 ((chk (l.take g) 14695981039346656037#64).toNat : Nat)), (8, .int .i64 g)]) (fun g => []) (fun g => l.length - g)
    (fun g => g ≤ l.length) 0 xAi (Nat.zero_le _) ?_
  rintro i hi
  (try dsimp only)
  repeat first|refine sgo ?_|refine sop ?_
  refine cnd (fun h => xAB ?_) (fun h => xAD ?_)
  · have hlt : i < l.length := by have h' := of_decide_eq_true h; omega
    obtain ⟨x, hx⟩ : ∃ x, l[i]? = some x := ⟨_, List.getElem?_eq_getElem hlt⟩
    have hxe := gm (enc := encB) (n := (i : Int)) hx (by omega)
    have hcv : IntKind.u64.wrap (x.toNat : Int) = (x.toNat : Int) := xJ2 (by have := x.toNat_lt; omega)
    have hX := xorB (chk (l.take i) 14695981039346656037#64) x
    have hM := mulB (chk (l.take i) 14695981039346656037#64 ^^^ BitVec.ofNat 64 x.toNat)
    repeat first|refine sgo ?_|refine xBN ?_|refine xBE hX ?_|refine xBE hM ?_|refine sop ?_
    refine agn (Q := fun _ _ => True) (i + 1) (by omega) ?_
    rw [xOH hx]
    exact xAi
  · have hge : i = l.length := by have h' := of_decide_eq_false h; omega
    subst hge
    rw [List.take_length]
    repeat first|refine sgo ?_|refine sop ?_
    exact xAC ⟨.inr rfl, oAny rfl⟩
theorem xRn {q : PV} {l : List UInt8} (hq : Sl q (l.map encB)) (hl : l.length ≤ 1000000000) : VC Tryz.prog 38 [q] [] (.int .u64 ((xJx l).toNat : Nat)) [] := by
  have hml : (l.map encB).length = l.length := List.length_map _
  refine vcs vf38 ?_
  repeat first|refine sgo ?_|refine sop ?_
  refine xAE (fun (g : Nat) => (if 38 = 53 then [(6, q), (7, .int .i64 (l.map encB).length)] else [(0, q)]) ++ [(3, .int .u64 ((chk (l.take g) 14695981039346656037#64).toNat : Nat)), (4, .int .i64 g)]) (fun g => []) (fun g => l.length - g)
    (fun g => g ≤ l.length) 0 xAi (Nat.zero_le _) ?_
  rintro i hi
  (try dsimp only)
  repeat first|refine sgo ?_|refine sop ?_
  refine cnd (fun h => xAB ?_) (fun h => xAD ?_)
  · have hlt : i < l.length := by have h' := of_decide_eq_true h; omega
    obtain ⟨x, hx⟩ : ∃ x, l[i]? = some x := ⟨_, List.getElem?_eq_getElem hlt⟩
    have hxe := gm (enc := encB) (n := (i : Int)) hx (by omega)
    have hcv : IntKind.u64.wrap (x.toNat : Int) = (x.toNat : Int) := xJ2 (by have := x.toNat_lt; omega)
    have hX := xorB (chk (l.take i) 14695981039346656037#64) x
    have hM := mulB (chk (l.take i) 14695981039346656037#64 ^^^ BitVec.ofNat 64 x.toNat)
    repeat first|refine sgo ?_|refine xBN ?_|refine xBE hX ?_|refine xBE hM ?_|refine sop ?_
    refine agn (Q := fun _ _ => True) (i + 1) (by omega) ?_
    rw [xOH hx]
    exact xAi
  · have hge : i = l.length := by have h' := of_decide_eq_false h; omega
    subst hge
    rw [List.take_length]
    repeat first|refine sgo ?_|refine sop ?_
    exact xAC ⟨.inr rfl, oAny rfl⟩
set_option maxHeartbeats 1000000 in
theorem xNQ {n w : Nat} (hn : n < 2 ^ 64) (hw : w ≤ 8) : VC Tryz.prog 54 [.int .u64 (n : Int), .int .i64 (w : Int)] [] (ownV ⟨0, 0⟩ ((numB n w).map encB)) [blkV 1 ((numB n w).map encB)] := by
  refine vcs vf54 ?_
  repeat first|refine sgo ?_|refine sop ?_
  refine xAE (fun (g : Nat × List UInt8) => [(0, .int .u64 (n : Int)), (5, ownV ⟨1, 8192⟩ (g.2.map encB)), (6, .int .i64 ((g.1 : Int) - 1))]) (fun g => [(⟨1, 8192⟩, blkV 1 (g.2.map encB))]) (fun g => g.1)
    (fun g => g.1 ≤ w ∧ g.2 ++ numB n g.1 = numB n w ∧ g.2.length + g.1 ≤ 8) (w, []) xAi ⟨Nat.le_refl _, rfl, by simp only [List.length_nil]; omega⟩ ?_
  rintro ⟨j, o⟩ ⟨hj, hv, ho⟩
  dsimp only at hj hv ho ⊢
  repeat first|refine sgo ?_|refine sop ?_
  refine cnd (fun h => xAB ?_) (fun h => xAD ?_)
  · obtain ⟨i, rfl⟩ : ∃ i, j = i + 1 := ⟨j - 1, by have h' := of_decide_eq_true h; omega⟩
    rw [numB] at hv
    have hs := shrB (n := n) (i := 8 * (((i + 1 : Nat) : Int) - 1)) i (by omega) (by omega)
    have hc := cvB (n / 2 ^ (8 * i))
    repeat first|refine sgo ?_|refine xBE hs ?_|refine xBN ?_|refine o_v (vap encB (UInt8.ofNat (n / 2 ^ (8 * i)))) ?_|refine sop ?_
    refine agn (Q := fun _ _ => True) (i, o ++ [UInt8.ofNat (n / 2 ^ (8 * i))]) ⟨by simp only; omega, by rw [← hv]; simp, by simp only [List.length_append, List.length_cons, List.length_nil]; omega⟩ (xAi (h1 := by refine ⟨rfl, rfl, ?_, trivial⟩; exact congrArg (fun z => some (PV.int .i64 z)) (by simp only; omega)))
  · have h0 : j = 0 := by have h' := of_decide_eq_false h; omega
    subst h0
    rw [numB, List.append_nil] at hv
    rw [← hv]
    repeat first|refine sgo ?_|refine sop ?_
    exact xAC ⟨.inr rfl, oG [⟨1, 8192⟩]⟩
theorem xMX {n w : Nat} (hn : n < 2 ^ 64) (hw : w ≤ 8) : VC Tryz.prog 54 [.int .u64 (n : Int), .int .i64 (w : Int)] [] (.sh false ((numB n w).map encB)) [] := xEA (xNQ hn hw) (xAZ rfl rfl)
structure DgOk (t : List PairL) : Prop where
  n : t.length ≤ 1000
  p : ∀ p ∈ t, p.key.length ≤ 100000 ∧ p.val.length ≤ 100000 ∧ 0 ≤ p.stamp ∧ p.stamp < 9223372036854775808
theorem xDa (n : Nat) : ∀ w, (numB n w).length = w
  | 0 => rfl
  | w + 1 => by rw [numB, List.length_cons, xDa n w]
theorem xST {p : PairL} (h : p.key.length ≤ 100000 ∧ p.val.length ≤ 100000 ∧ 0 ≤ p.stamp ∧ p.stamp < 9223372036854775808) : (serP p).length ≤ 200016 := by
  unfold serP
  simp only [List.length_append, xDa]
  omega
theorem xPw {t : List PairL} (h : DgOk t) (i : Nat) : (numB t.length 4 ++ (t.take i).flatMap serP).length ≤ 4 + 200016 * 1000 := by
  rw [List.length_append, xDa]
  have key : ∀ l : List PairL, (∀ p ∈ l, (serP p).length ≤ 200016) → (l.flatMap serP).length ≤ 200016 * l.length := by
    intro l
    induction l with
    | nil => intro _; simp
    | cons p l ih =>
      intro h
      have h1 := h p (by simp)
      have h2 := ih fun q hq => h q (by simp [hq])
      rw [List.flatMap_cons, List.length_append, List.length_cons]
      omega
  have h1 := key (t.take i) fun p hp => xST (h.p p (List.mem_of_mem_take hp))
  have h2 := h.n
  have h3 : (t.take i).length ≤ 1000 := by rw [List.length_take]; omega
  have := Nat.mul_le_mul_left 200016 h3
  omega
theorem xNL {t : List PairL} {i : Nat} {p : PairL} (h : t[i]? = some p) : numB t.length 4 ++ (t.take (i + 1)).flatMap serP = numB t.length 4 ++ (t.take i).flatMap serP ++ numB p.key.length 4 ++ p.key ++ numB p.val.length 4 ++ p.val ++ numB p.stamp.toNat 8 := by
  rw [List.take_add_one, h]
  simp [serP, List.append_assoc]
theorem stN {s : Int} (h0 : 0 ≤ s) (h1 : s < 9223372036854775808) : IntKind.u64.wrap s = ((s.toNat : Nat) : Int) := by
  obtain ⟨n, rfl⟩ : ∃ n : Nat, s = n := ⟨s.toNat, by omega⟩
  rw [xJ2 (by omega)]
  simp
set_option maxHeartbeats 4000000 in
theorem xGM {t : List PairL} (hD : DgOk t) : VC Tryz.prog 23 [.sh false (t.map encP)] [] (.int .u64 (xBb t)) [] := by
  have hn := hD.n
  have hml : (t.map encP).length = t.length := List.length_map _
  have h0 := xMJ (n := t.length) (w := 4) (by omega) (by omega) (l := []) (by simp)
  rw [List.nil_append] at h0
  have hc0 : IntKind.u64.wrap ((t.map encP).length : Int) = (t.length : Int) := by rw [hml]; exact xJ2 (by omega)
  refine vcs vf23 ?_
  refine xAb (rg ?_)
  repeat first|refine xAP ?_|refine sop ?_
  refine nl ?_
  refine xAb (rg ?_)
  repeat first|refine xAP ?_|refine sop ?_
  refine nl ?_
  refine xD7 (Imp.nilH (b := ⟨1, 8201⟩) (b1 := ⟨1, 8200⟩) (esz := 1) rfl rfl (by decide)) ?_
  repeat first|refine sgo ?_|refine xBN ?_|refine cl (lent := [⟨1, 8200⟩, ⟨1, 8201⟩]) h0 ?_|refine sop ?_
  refine xAE (fun (g : Nat) => [(3, .ptr ⟨1, 8200⟩ 1 0 0), (13, .sh false (t.map encP)), (14, .int .i64 (t.map encP).length), (15, .int .i64 g)])
    (fun g => [(⟨1, 8200⟩, ⟨true, false, 1, [[ownV ⟨1, 8201⟩ ((numB t.length 4 ++ (t.take g).flatMap serP).map encB)]]⟩), (⟨1, 8201⟩, blkV 1 ((numB t.length 4 ++ (t.take g).flatMap serP).map encB))]) (fun g => t.length - g)
    (fun g => g ≤ t.length) 0 (by simp only [List.take_zero, List.flatMap_nil, List.append_nil]; exact xAi) (Nat.zero_le _) ?_
  rintro i hi
  (try dsimp only)
  have hpre := xPw hD i
  repeat first|refine sgo ?_|refine sop ?_
  refine cnd (fun h => xAB ?_) (fun h => xAD ?_)
  · have hlt : i < t.length := by have h' := of_decide_eq_true h; omega
    obtain ⟨p, hp⟩ : ∃ x, t[i]? = some x := ⟨_, List.getElem?_eq_getElem hlt⟩
    have hpe := gm (enc := encP) (n := (i : Int)) hp (by omega)
    have hpo := hD.p p (List.mem_of_getElem? hp)
    have h1 := xM9 (s := p.key) (by omega) (l := numB t.length 4 ++ (t.take i).flatMap serP) (by omega)
    have hl2 : (numB t.length 4 ++ (t.take i).flatMap serP ++ numB p.key.length 4 ++ p.key).length ≤ 400000000 := by rw [List.length_append, List.length_append, xDa]; omega
    have h2 := xM9 (s := p.val) (by omega) (l := numB t.length 4 ++ (t.take i).flatMap serP ++ numB p.key.length 4 ++ p.key) (by omega)
    have hl3 : (numB t.length 4 ++ (t.take i).flatMap serP ++ numB p.key.length 4 ++ p.key ++ numB p.val.length 4 ++ p.val).length ≤ 400200000 := by rw [List.length_append, List.length_append, xDa]; omega
    have h3 := xMJ (n := p.stamp.toNat) (w := 8) (by omega) (by omega) (l := numB t.length 4 ++ (t.take i).flatMap serP ++ numB p.key.length 4 ++ p.key ++ numB p.val.length 4 ++ p.val) (by omega)
    have hcs := stN hpo.2.2.1 hpo.2.2.2
    have hst := xNL hp
    repeat first|refine sgo ?_|refine xBN ?_|refine cl (lent := [⟨1, 8200⟩, ⟨1, 8201⟩]) h1 ?_|refine cl (lent := [⟨1, 8200⟩, ⟨1, 8201⟩]) h2 ?_|refine cl (lent := [⟨1, 8200⟩, ⟨1, 8201⟩]) h3 ?_|refine sop ?_
    refine agn (Q := fun _ _ => True) (i + 1) (by omega) ?_
    rw [hst]
    exact xAi
  · have hge : i = t.length := by have h' := of_decide_eq_false h; omega
    subst hge
    rw [List.take_length] at hpre ⊢
    have hck := xRo (q := .sh false ((serT t).map encB)) (l := serT t) Sl.sh (by show (numB t.length 4 ++ t.flatMap serP).length ≤ _; omega)
    change VC _ _ [.sh false ((numB t.length 4 ++ t.flatMap serP).map encB)] _ _ _ at hck
    repeat first|refine sgo ?_|refine cf hck ?_|refine sop ?_
    exact xAC ⟨.inr rfl, oAny rfl⟩
set_option maxHeartbeats 4000000 in
theorem xOj {t : List PairL} (hD : DgOk t) : VC Tryz.prog 24 [.sh false (t.map encP)] [] (.int .u64 (xBb t)) [] := by
  have hn := hD.n
  have hml : (t.map encP).length = t.length := List.length_map _
  have h0 := xNQ (n := t.length) (w := 4) (by omega) (by omega)
  have hc0 : IntKind.u64.wrap ((t.map encP).length : Int) = (t.length : Int) := by rw [hml]; exact xJ2 (by omega)
  refine vcs vf24 ?_
  repeat first|refine sgo ?_|refine xBN ?_|refine cv h0 ?_|refine sop ?_
  refine xAE (fun (g : Nat) => [(0, .sh false (t.map encP)), (3, ownV ⟨1, 8216⟩ ((numB t.length 4 ++ (t.take g).flatMap serP).map encB)), (4, .int .i64 g)])
    (fun g => [(⟨1, 8216⟩, blkV 1 ((numB t.length 4 ++ (t.take g).flatMap serP).map encB))]) (fun g => t.length - g)
    (fun g => g ≤ t.length) 0 (by simp only [List.take_zero, List.flatMap_nil, List.append_nil]; exact xAi) (Nat.zero_le _) ?_
  rintro i hi
  (try dsimp only)
  have hpre := xPw hD i
  repeat first|refine sgo ?_|refine sop ?_
  refine cnd (fun h => xAB ?_) (fun h => xAD ?_)
  · have hlt : i < t.length := by have h' := of_decide_eq_true h; omega
    obtain ⟨p, hp⟩ : ∃ x, t[i]? = some x := ⟨_, List.getElem?_eq_getElem hlt⟩
    have hpe := gm (enc := encP) (n := (i : Int)) hp (by omega)
    have hpo := hD.p p (List.mem_of_getElem? hp)
    have hlt2 : (i : Int) < ((t.map encP).length : Nat) := by omega
    have h1 := xMX (n := p.key.length) (w := 4) (by omega) (by omega)
    have h2 := xMX (n := p.val.length) (w := 4) (by omega) (by omega)
    have h3 := xMX (n := p.stamp.toNat) (w := 8) (by omega) (by omega)
    have hc1 : IntKind.u64.wrap (p.key.length : Int) = (p.key.length : Int) := xJ2 (by omega)
    have hc2 : IntKind.u64.wrap (p.val.length : Int) = (p.val.length : Int) := xJ2 (by omega)
    have hcs := stN hpo.2.2.1 hpo.2.2.2
    have hst := xNL hp
    generalize hpr : numB t.length 4 ++ (t.take i).flatMap serP = pre at *
    have l1 := xDa p.key.length 4
    have l2 := xDa p.val.length 4
    have l3 := xDa p.stamp.toNat 8
    generalize numB p.key.length 4 = z1 at *
    generalize numB p.val.length 4 = z2 at *
    generalize numB p.stamp.toNat 8 = z3 at *
    have m1 : (pre ++ z1).length ≤ 300000000 := by rw [List.length_append]; omega
    have m2 : (pre ++ z1 ++ p.key).length ≤ 300200000 := by rw [List.length_append]; omega
    have m3 : (pre ++ z1 ++ p.key ++ z2).length ≤ 300300000 := by rw [List.length_append]; omega
    have m4 : (pre ++ z1 ++ p.key ++ z2 ++ p.val).length ≤ 300500000 := by rw [List.length_append]; omega
    refine xAb (xA0 (xAb (rg ?_)))
    repeat first|refine xAP ?_|refine xBN ?_|refine cf h1 ?_|refine o_v (vaps encB pre z1) ?_|refine sop ?_
    refine nl ?_
    refine xAb (rg ?_)
    repeat first|refine xAP ?_|refine o_v (vaps encB (pre ++ z1) p.key) ?_|refine sop ?_
    refine nl ?_
    refine xAb (rg ?_)
    repeat first|refine xAP ?_|refine xBN ?_|refine cf h2 ?_|refine o_v (vaps encB (pre ++ z1 ++ p.key) z2) ?_|refine sop ?_
    refine nl ?_
    refine xAb (rg ?_)
    repeat first|refine xAP ?_|refine o_v (vaps encB (pre ++ z1 ++ p.key ++ z2) p.val) ?_|refine sop ?_
    refine nl ?_
    refine rg ?_
    repeat first|refine xAP ?_|refine xBN ?_|refine cf h3 ?_|refine o_v (vaps encB (pre ++ z1 ++ p.key ++ z2 ++ p.val) z3) ?_|refine sop ?_
    refine nl ?_
    repeat first|refine sgo ?_|refine sop ?_
    refine agn (Q := fun _ _ => True) (i + 1) (by omega) ?_
    rw [hst]
    exact xAi
  · have hge : i = t.length := by have h' := of_decide_eq_false h; omega
    subst hge
    rw [List.take_length] at hpre ⊢
    have hck := xRn (q := .sh false ((serT t).map encB)) (l := serT t) Sl.sh (by show (numB t.length 4 ++ t.flatMap serP).length ≤ _; omega)
    change VC _ _ [.sh false ((numB t.length 4 ++ t.flatMap serP).map encB)] _ _ _ at hck
    repeat first|refine sgo ?_|refine cf hck ?_|refine sop ?_
    exact xAC ⟨.inr rfl, oAny rfl⟩
end Go.Proofs
open Go.V Go.Pu
set_option linter.unusedVariables false
set_option linter.unusedSimpArgs false
set_option maxRecDepth 20000
namespace Go.Proofs
def dL : PV → Option (List (List PV))
  | .nils => some []
  | .she => some []
  | .sh _ l => some l
  | _ => none
theorem xTc {p : PV} {l : List (List PV)} (h : dL p = some l) : Sl p l := by
  cases p <;> simp only [dL] at h <;> first
    | (cases h; exact .inl ⟨rfl, rfl⟩)
    | (cases h; exact .inr (.inl ⟨rfl, rfl⟩))
    | (cases h; exact Sl.sh)
    | cases h
def dM : List PV → Option MsgL
  | [.int .i64 k, .str a, .str b, .str c, .str d, .str e, .str f, .int .i64 n] => some ⟨k, a, b, ⟨c, d⟩, e, f, n⟩
  | _ => none
theorem dM_ok {e : List PV} {x : MsgL} (h : dM e = some x) : e = encM x := by
  unfold dM at h
  split at h
  · cases h; rfl
  · cases h
def dAll {α : Type} (f : List PV → Option α) : List (List PV) → Option (List α)
  | [] => some []
  | e :: r => (f e).bind fun x => (dAll f r).map (x :: ·)
theorem xMv {α : Type} {f : List PV → Option α} {enc : α → List PV} (hf : ∀ e x, f e = some x → e = enc x) : ∀ {l : List (List PV)} {xs : List α}, dAll f l = some xs → l = xs.map enc
  | [], xs, h => by cases h; rfl
  | e :: r, xs, h => by
    unfold dAll at h
    obtain ⟨x, hx, h⟩ := bind_some h
    obtain ⟨ys, hy, rfl⟩ := map_some h
    rw [xMv hf hy, hf _ _ hx]; rfl
def dMs (p : PV) : Option (List MsgL) := (dL p).bind (dAll dM)
theorem xUM {p : PV} {xs : List MsgL} (h : dMs p = some xs) : Sl p (xs.map encM) := by
  obtain ⟨l, h1, h2⟩ := bind_some h
  rw [← xMv (fun e x => dM_ok) h2]
  exact xTc h1
def szB (m : MsgL) : Bool := decide (1 ≤ m.kind) && decide (m.kind ≤ 6) && Nat.ble m.key.length 1000 && Nat.ble m.fr.length 1000 && Nat.ble m.to.length 1000
def szA : List MsgL → Bool
  | [] => true
  | m :: r => szB m && szA r
theorem xTu : ∀ {l : List MsgL}, szA l = true → ∀ m ∈ l, MsgSz m
  | x :: r, h, m, hm => by
    unfold szA at h
    rw [Bool.and_eq_true] at h
    rcases List.mem_cons.1 hm with rfl | hm
    · have h1 := h.1
      unfold szB at h1
      simp only [Bool.and_eq_true, decide_eq_true_eq] at h1
      obtain ⟨⟨⟨⟨a, b⟩, c⟩, d⟩, e⟩ := h1
      have c := Nat.le_of_ble_eq_true c
      have d := Nat.le_of_ble_eq_true d
      have e := Nat.le_of_ble_eq_true e
      exact ⟨⟨a, b⟩, by omega, by omega, by omega⟩
    · exact xTu h.2 m hm
def dP : List PV → Option PairL
  | [.str a, .str b, .int .i64 n] => some ⟨a, b, n⟩
  | _ => none
theorem dP_ok {e : List PV} {x : PairL} (h : dP e = some x) : e = encP x := by
  unfold dP at h
  split at h
  · cases h; rfl
  · cases h
def dPs (p : PV) : Option (List PairL) := (dL p).bind (dAll dP)
theorem xRR {p : PV} {xs : List PairL} (h : dPs p = some xs) : Sl p (xs.map encP) := by
  obtain ⟨l, h1, h2⟩ := bind_some h
  rw [← xMv (fun e x => dP_ok) h2]
  exact xTc h1
def dE : List PV → Option EpL
  | [.int .i64 a, .int .i64 b, .int .i64 c, .str n, p] => (dMs p).map fun m => ⟨a, b, c, n, m⟩
  | _ => none
def dEs : List (List PV) → Option (List EpL)
  | [] => some []
  | e :: r => (dE e).bind fun x => (dEs r).map (x :: ·)
theorem xRS : ∀ {l : List (List PV)} {xs : List EpL}, dEs l = some xs → (xs.map encE).length = l.length ∧ ∀ (i : Nat) (e : List PV), (xs.map encE)[i]? = some e → ∃ e', l[i]? = some e' ∧ e.length = e'.length ∧ ∀ (j : Nat) (p : PV), e[j]? = some p → ∃ p', e'[j]? = some p' ∧ CLe p' p
  | [], xs, h => by cases h; exact ⟨rfl, fun i e h => by simp at h⟩
  | e :: r, xs, h => by
    unfold dEs at h
    obtain ⟨x, hx, h⟩ := bind_some h
    obtain ⟨ys, hy, rfl⟩ := map_some h
    have ih := xRS hy
    refine ⟨by simpa using ih.1, fun i q hq => ?_⟩
    cases i with
    | succ i => exact ih.2 i q (by simpa using hq)
    | zero =>
      refine ⟨e, rfl, ?_⟩
      have hq : encE x = q := by simpa using hq
      subst hq
      unfold dE at hx
      split at hx
      · rename_i a b c n p
        obtain ⟨m, hm, rfl⟩ := map_some hx
        refine ⟨rfl, fun j z hz => ?_⟩
        match j, hz with
        | 0, hz => cases hz; exact ⟨_, rfl, CLe.refl _⟩
        | 1, hz => cases hz; exact ⟨_, rfl, CLe.refl _⟩
        | 2, hz => cases hz; exact ⟨_, rfl, CLe.refl _⟩
        | 3, hz => cases hz; exact ⟨_, rfl, CLe.refl _⟩
        | 4, hz => cases hz; exact ⟨_, rfl, CLe.sl (xUM hm)⟩
        | j + 5, hz => cases hz
      · cases hx
def dFr : PV → Option ForL
  | .agg [p, .int .i64 a, .int .i64 b, .int .i64 c, q, .int .i64 n, .int .i64 r, .int .i64 u, m] => (dL p).bind fun pc => (dL q).bind fun er => (dEs er).bind fun E => (dMs m).map fun ms => ⟨pc, a, b, c, E, n, r, u, ms⟩
  | _ => none
theorem xUN {p : PV} {f : ForL} (h : dFr p = some f) : PLe p (.agg (xGK f)) := by
  unfold dFr at h
  split at h
  · obtain ⟨pc, h1, h⟩ := bind_some h
    obtain ⟨er, h2, h⟩ := bind_some h
    obtain ⟨E, h3, h⟩ := bind_some h
    obtain ⟨ms, h4, rfl⟩ := map_some h
    have s1 := xTc h1
    have s2 := xTc h2
    have s4 := xUM h4
    have e := xRS h3
    have c2 : CLe _ (.sh false (E.map encE)) := fun F w x hx => CLe.sh (ex := false) e.1 e.2 F w x (CLe.sl s2 F w x hx)
    exact PLe.agg (.cons ((CLe.sl s1).s s1.closed) (.cons (SLe.refl _) (.cons (SLe.refl _) (.cons (SLe.refl _) (.cons (c2.s s2.closed) (.cons (SLe.refl _) (.cons (SLe.refl _) (.cons (SLe.refl _) (.cons ((CLe.sl s4).s s4.closed) .nil)))))))))
  · cases h
def xOr (E : List EpL) : Nat → Int → Option (List EpL)
  | 0, _ => none
  | n + 1, id => match xGq E id with
    | none => some []
    | some e => (xOr E n e.par).map (e :: ·)
theorem xHY {E : List EpL} : ∀ {n : Nat} {id : Int} {L : List EpL}, xOr E n id = some L → xGV E id L
  | 0, id, L, h => by cases h
  | n + 1, id, L, h => by
    unfold xOr at h
    split at h
    · cases h; assumption
    · obtain ⟨R, hR, rfl⟩ := map_some h
      exact ⟨by assumption, xHY hR⟩
def ndB : List Int → Bool
  | [] => true
  | x :: r => !r.contains x && ndB r
theorem xT8 : ∀ {l : List Int}, ndB l = true → l.Nodup
  | [], _ => List.nodup_nil
  | x :: r, h => by
    unfold ndB at h
    rw [Bool.and_eq_true] at h
    exact List.nodup_cons.2 ⟨by simpa using h.1, xT8 h.2⟩
end Go.Proofs
open Go.V Go.Pu
set_option linter.unusedVariables false
set_option linter.unusedSimpArgs false
set_option maxRecDepth 20000
namespace Go.Proofs
def orcBt (p : PV) (a b : Int) : Option (PV × List Blk) := (dFr p).bind fun f => (xOr f.eps 20 (if b = 0 then f.par else b)).bind fun L =>
  match Nat.ble f.eps.length 1000 && Nat.ble L.length 1000 && Nat.ble (((if b = 0 then [f.ms] else []) ++ colL a L).reverse.flatten).length 6200 && szA (((if b = 0 then [f.ms] else []) ++ colL a L).reverse.flatten) with
  | true => some (.tup [.sh false ((xGS f.eps f.ms a b L).1.map encM), .int .i64 (xGS f.eps f.ms a b L).2], [])
  | false => none
def orcCm (p : PV) (a b : Int) : Option (PV × List Blk) := (dFr p).bind fun f => (xOr f.eps 20 (if a = 0 then f.par else a)).bind fun L => (xOr f.eps 20 (if b = 0 then f.par else b)).bind fun M =>
  match Nat.ble f.eps.length 1000 && Nat.ble L.length 1000 && ndB (L.map EpL.id) with
  | true => some (.tup [.int .i64 (xIy f.eps a b L M).1, .int .i64 (xIy f.eps a b L M).2], [])
  | false => none
def orcTb (p q : PV) : Option (PV × List Blk) := (dPs p).bind fun l => (dPs q).bind fun k => match Nat.ble (l.length + k.length) 100000 with
  | true => some (.sh false ((xAt l k).map encM), [])
  | false => none
def orcDg (p : PV) : Option (PV × List Blk) := (dPs p).bind fun l => match l with
  | [] => some (.int .u64 (xBb []), [])
  | _ :: _ => none
def orc : V.Call := fun f args hin => match Nat.beq f 13, Nat.beq f 15, Nat.beq f 28, Nat.beq f 23, args, hin with
  | true, _, _, _, [p, .int .i64 a, .int .i64 b], [] => orcBt p a b
  | _, true, _, _, [p, .int .i64 a, .int .i64 b], [] => orcCm p a b
  | _, _, true, _, [p, q], [] => orcTb p q
  | _, _, _, true, [p], [] => orcDg p
  | _, _, _, _, _, _ => none
theorem xSo : xCl Tryz.prog orc := by
  intro f args hin v hout h
  unfold orc at h
  split at h
  · rename_i p a b hf
    have hf : f = 13 := Nat.eq_of_beq_eq_true (by assumption)
    subst hf
    obtain ⟨g, hg, h⟩ := bind_some h
    obtain ⟨L, hL, h⟩ := bind_some h
    split at h
    · rename_i hc
      cases h
      simp only [Bool.and_eq_true] at hc
      exact xCQ (xPB (Nat.le_of_ble_eq_true hc.1.1.1) (xHY hL) (Nat.le_of_ble_eq_true hc.1.1.2) (Nat.le_of_ble_eq_true hc.1.2) (xTu hc.2)) (.cons (xUN hg) (.cons (PLe.refl _) (.cons (PLe.refl _) .nil))) (PLe.refl _)
    · cases h
  · rename_i p a b hf
    have hf : f = 15 := Nat.eq_of_beq_eq_true (by assumption)
    subst hf
    obtain ⟨g, hg, h⟩ := bind_some h
    obtain ⟨L, hL, h⟩ := bind_some h
    obtain ⟨M, hM, h⟩ := bind_some h
    split at h
    · rename_i hc
      cases h
      simp only [Bool.and_eq_true] at hc
      exact xCQ (xRc (Nat.le_of_ble_eq_true hc.1.1) (xHY hL) (xHY hM) (Nat.le_of_ble_eq_true hc.1.2) (xT8 hc.2)) (.cons (xUN hg) (.cons (PLe.refl _) (.cons (PLe.refl _) .nil))) (PLe.refl _)
    · cases h
  · rename_i p q hf
    have hf : f = 28 := Nat.eq_of_beq_eq_true (by assumption)
    subst hf
    obtain ⟨l, hl, h⟩ := bind_some h
    obtain ⟨k, hk, h⟩ := bind_some h
    split at h
    · rename_i hc
      cases h
      exact xCQ (xFt (Nat.le_of_ble_eq_true hc)) (.cons (PLe.sl (xRR hl)) (.cons (PLe.sl (xRR hk)) .nil)) (PLe.refl _)
    · cases h
  · rename_i p hf
    have hf : f = 23 := Nat.eq_of_beq_eq_true (by assumption)
    subst hf
    obtain ⟨l, hl, h⟩ := bind_some h
    split at h
    · cases h
      exact xCQ (xGM (t := []) ⟨by simp, by simp⟩) (.cons (PLe.sl (xRR hl)) .nil) (PLe.refl _)
    · cases h
  · cases h
theorem xOc : run Tryz.prog orc noX 400 20 11 [] [] = some (.bool true, []) := by kernel_rfl
theorem xLH : VC Tryz.prog 11 [] [] (.bool true) [] := xNN xSo xSz 20 _ _ _ _ _ xOc
end Go.Proofs
