/- Bc -/
import Derived.Test.YtgkocobnccdocaaGreatTb
import Derived.Test.YtgkocobnccdocaaGreatSc
import Derived.Test.YtgkocobnccdocaaGreatBb
open Go.V Go.Pu
set_option linter.unusedVariables false
set_option linter.unusedSimpArgs false
set_option maxRecDepth 20000
namespace Go.Proofs
def vc22 := vcm Tryz.prog 22
theorem vf22 : VF Tryz.prog 22 = some (42, vc22, [.tmp 4]) := by kernel_rfl
theorem xQF {l : List PairL} {i : Nat} {p : PairL} (h : l[i]? = some p) (o : List PairL) : (l.take (i + 1)).foldl putL o = putL ((l.take i).foldl putL o) p := by
  rw [List.take_add_one, h, Option.toList_some, List.foldl_append]; rfl
theorem xE1 : ∀ (l o : List PairL), (l.foldl putL o).length ≤ o.length + l.length
  | [], o => by simp
  | p :: l, o => by
    have h1 := xE1 l (putL o p)
    have h2 := xKH o p
    rw [List.foldl_cons, List.length_cons]; omega
def xKL (r : RawL) : PairL := ⟨keyM r.x, valM r.y, r.z % 8⟩
def xBu (l : List RawL) (n : Nat) : List PairL := ((l.take n).map xKL).foldl putL []
theorem xKA {xs : List RawL} (n : Nat) (hn : n ≤ 1000) : VC Tryz.prog 22 [.sh false (xs.map encR), .int .i64 n] [] (.sh false ((xBu xs n).map encP)) [] := by
  refine xDo ?_
  have hml : (xs.map encR).length = xs.length := List.length_map _
  refine vcs vf22 ?_
  repeat first|refine sgo ?_|refine sop ?_
  refine xAE (fun (i : Nat) => [(0, .sh false (xs.map encR)), (1, .int .i64 n), (5, ownV ⟨1, 8192⟩ ((xBu xs i).map encP)), (6, .int .i64 i)]) (fun i => [(⟨1, 8192⟩, blkV 3 ((xBu xs i).map encP))]) (fun i => xs.length - i)
    (fun i => i ≤ xs.length ∧ i ≤ n) 0 xAi ⟨Nat.zero_le _, Nat.zero_le _⟩ ?_
  rintro i ⟨hi, hin⟩
  have htl : (xBu xs i).length ≤ i := by
    have := xE1 ((xs.take i).map xKL) []
    rw [List.length_map, List.length_take] at this
    unfold xBu
    simp only [List.length_nil] at this; omega
  by_cases hA : i < xs.length
  · have g1 : decide ((i : Int) < (xs.map encR).length) = true := by rw [hml]; simp; omega
    obtain ⟨r, hx⟩ : ∃ y, xs[i]? = some y := ⟨_, List.getElem?_eq_getElem hA⟩
    have hxe := gm (enc := encR) (n := (i : Int)) hx (by omega)
    have hlt2 : (i : Int) < ((xs.map encR).length : Nat) := by rw [hml]; omega
    have htk : xBu xs (i + 1) = putL (xBu xs i) (xKL r) := by
      unfold xBu
      rw [List.take_add_one, hx, Option.toList_some, List.map_append, List.foldl_append]; rfl
    by_cases hB : i < n
    · have g2 : decide ((i : Int) < (n : Int)) = true := by simp; omega
      obtain ⟨x, y, z, hx', hy', hz'⟩ := r
      have k1 := xVq hx'
      have k2 := val_vc y
      have h1 : Int.tmod (z : Int) 8 = ((z % 8 : Nat) : Int) := tm z 8
      have h2 : IntKind.i64.wrap ((z % 8 : Nat) : Int) = ((z % 8 : Nat) : Int) := xB0 (by omega) (by omega)
      have hpu := xQK (q := .sh false ((xBu xs i).map encP)) (xs := xBu xs i) (p := xKL ⟨x, y, z, hx', hy', hz'⟩) Sl.sh (by omega)
      rw [← htk] at hpu
      repeat first|refine sgo ?_|refine sop ?_
      refine cndt (xAB ?_)
      repeat first|refine sgo ?_|refine cv0 k1 ?_|refine cv0 k2 ?_|refine xOn ?_|refine xBN ?_|refine cv hpu ?_|refine sop ?_
      exact agn (Q := fun _ _ => True) (i + 1) ⟨by omega, by omega⟩ (xTX ⟨1, 41128⟩ ⟨1, 8192⟩)
    · have g2 : decide ((i : Int) < (n : Int)) = false := by simp; omega
      have he : xBu xs n = xBu xs i := by rw [show i = n by omega]
      rw [he]
      repeat first|refine sgo ?_|refine sop ?_
      refine cndf (xAD ?_)
      repeat first|refine sgo ?_|refine sop ?_
      exact xAC ⟨.inr rfl, oOwn rfl⟩
  · have g1 : decide ((i : Int) < (xs.map encR).length) = false := by rw [hml]; simp; omega
    have he : xBu xs n = xBu xs i := by unfold xBu; rw [List.take_of_length_le (by omega), List.take_of_length_le (by omega)]
    rw [he]
    repeat first|refine sgo ?_|refine sop ?_
    refine cndf (xAD ?_)
    repeat first|refine sgo ?_|refine sop ?_
    exact xAC ⟨.inr rfl, oOwn rfl⟩
theorem xK7 (l : List RawL) (n : Nat) : Srt (xBu l n) := by
  have key : ∀ (l t : List PairL), Srt t → Srt (l.foldl putL t) := by
    intro l
    induction l with
    | nil => intro t h; exact h
    | cons x l ih => intro t h; exact ih _ (xBL h)
  exact key _ _ List.Pairwise.nil
theorem xHp (l : List RawL) (n : Nat) : (xBu l n).length ≤ n := by
  have := xE1 ((l.take n).map xKL) []
  rw [List.length_map, List.length_take] at this
  unfold xBu
  simp only [List.length_nil] at this; omega
theorem xHq (l : List RawL) (n : Nat) : ∀ p ∈ xBu l n, p.key.length ≤ 8 := by
  have key : ∀ (l t : List PairL), (∀ p ∈ l, p.key.length ≤ 8) → (∀ p ∈ t, p.key.length ≤ 8) → ∀ p ∈ l.foldl putL t, p.key.length ≤ 8 := by
    intro l
    induction l with
    | nil => intro t _ h; exact h
    | cons x l ih =>
      intro t h1 h
      refine ih _ (fun p hp => h1 p (by simp [hp])) (fun p hp => ?_)
      rw [xEg] at hp
      rcases xGC hp with rfl | hp
      · exact h1 p (by simp)
      · exact h p hp
  refine key _ _ (fun p hp => ?_) (by simp)
  obtain ⟨r, _, rfl⟩ := List.mem_map.1 hp
  have := xKc r.x
  simp only [xKL]; omega
end Go.Proofs
open Go.V Go.Pu
set_option linter.unusedVariables false
set_option linter.unusedSimpArgs false
set_option maxRecDepth 20000
namespace Go.Proofs
def vc26 : VCode :=
 (.seq
 (.region 0 false [
 .e 4 (.copy (.c (.bool false))) 0])
 (.seq
 (.seq
 (.region 1 false [
 .e 6 (.copy (.t 0)) 8192,
 .e 7 (.len (.t 6)) 8200,
 .e 8 (.copy (.t 1)) 8208,
 .e 9 (.len (.t 8)) 8216,
 .e 10 (.bin .neq (.t 7) (.t 9)) 8224])
 (.cond (.t 10)
 (.seq
 (.region 2 false [
 .e 4 (.copy (.c (.bool false))) 16384])
 .ret)
 .skip))
 (.seq
 (.seq
 (.region 3 false [
 .e 5 (.copy (.c (.int .i64 0))) 24576])
 (.block 0
 (.loop
 (.seq
 (.seq
 (.region 4 false [
 .e 11 (.copy (.t 5)) 32768,
 .e 12 (.copy (.t 0)) 32776,
 .e 13 (.len (.t 12)) 32784,
 .e 14 (.bin .lss (.t 11) (.t 13)) 32792])
 (.cond (.t 14)
 .skip
 (.exit 0)))
 (.seq
 (.block 1
 (.seq
 (.region 6 true [
 .e 17 (.copy (.t 0)) 49152,
 .e 18 (.copy (.t 5)) 49160,
 .f 19 (.iaddr 3 (.t 17) (.t 18)) 49168 [0, 1],
 .f 20 (.load true 3 (.t 19)) 49176 [2, 0, 1],
 .e 21 (.copy (.t 1)) 49184,
 .e 22 (.copy (.t 5)) 49192,
 .f 23 (.iaddr 3 (.t 21) (.t 22)) 49200 [4, 5],
 .f 24 (.load true 3 (.t 23)) 49208 [6, 4, 5],
 .f 25 (.eqc true [2, 2, 1] (.t 20) (.t 24)) 49216 [3, 2, 0, 1, 7, 6, 4, 5]])
 (.cond (.t 25)
 (.seq
 (.region 7 false [
 .e 4 (.copy (.c (.bool false))) 57344])
 .ret)
 .skip)))
 (.region 5 false [
 .e 15 (.copy (.t 5)) 40960,
 .e 16 (.bin .add (.t 15) (.c (.int .i64 1))) 40968,
 .e 5 (.copy (.t 16)) 40976]))))))
 (.seq
 (.region 8 false [
 .e 4 (.copy (.c (.bool true))) 65536])
 .ret))))
theorem vf26 : VF Tryz.prog 26 = some (26, vc26, [.tmp 4]) := by kernel_rfl
def vc17 : VCode :=
 (.seq
 (.region 0 false [
 .e 4 (.copy (.c (.bool false))) 0])
 (.seq
 (.seq
 (.region 1 false [
 .e 6 (.copy (.t 0)) 8192,
 .e 7 (.len (.t 6)) 8200,
 .e 8 (.copy (.t 1)) 8208,
 .e 9 (.len (.t 8)) 8216,
 .e 10 (.bin .neq (.t 7) (.t 9)) 8224])
 (.cond (.t 10)
 (.seq
 (.region 2 false [
 .e 4 (.copy (.c (.bool false))) 16384])
 .ret)
 .skip))
 (.seq
 (.seq
 (.region 3 false [
 .e 5 (.copy (.c (.int .i64 0))) 24576])
 (.block 0
 (.loop
 (.seq
 (.seq
 (.region 4 false [
 .e 11 (.copy (.t 5)) 32768,
 .e 12 (.copy (.t 0)) 32776,
 .e 13 (.len (.t 12)) 32784,
 .e 14 (.bin .lss (.t 11) (.t 13)) 32792])
 (.cond (.t 14)
 .skip
 (.exit 0)))
 (.seq
 (.block 1
 (.seq
 (.region 6 true [
 .e 17 (.copy (.t 0)) 49152,
 .e 18 (.copy (.t 5)) 49160,
 .f 19 (.iaddr 8 (.t 17) (.t 18)) 49168 [0, 1],
 .f 20 (.load true 8 (.t 19)) 49176 [2, 0, 1],
 .e 21 (.copy (.t 1)) 49184,
 .e 22 (.copy (.t 5)) 49192,
 .f 23 (.iaddr 8 (.t 21) (.t 22)) 49200 [4, 5],
 .f 24 (.load true 8 (.t 23)) 49208 [6, 4, 5],
 .f 25 (.eqc true [1, 2, 2, 2, 2, 2, 2, 1] (.t 20) (.t 24)) 49216 [3, 2, 0, 1, 7, 6, 4, 5]])
 (.cond (.t 25)
 (.seq
 (.region 7 false [
 .e 4 (.copy (.c (.bool false))) 57344])
 .ret)
 .skip)))
 (.region 5 false [
 .e 15 (.copy (.t 5)) 40960,
 .e 16 (.bin .add (.t 15) (.c (.int .i64 1))) 40968,
 .e 5 (.copy (.t 16)) 40976]))))))
 (.seq
 (.region 8 false [
 .e 4 (.copy (.c (.bool true))) 65536])
 .ret))))
theorem vf17 : VF Tryz.prog 17 = some (26, vc17, [.tmp 4]) := by kernel_rfl
def vc62 := vcm Tryz.prog 62
theorem vf62 : VF Tryz.prog 62 = some (23, vc62, [.tmp 4]) := by kernel_rfl
def vc63 := vcm Tryz.prog 63
theorem vf63 : VF Tryz.prog 63 = some (25, vc63, [.cell true 3 4, .tmp 5]) := by kernel_rfl
def vc29 : VCode :=
 (.seq
 (.region 0 false [
 .e 4 (.copy (.c .nils)) 0])
 (.seq
 (.region 1 false [
 .e 13 (.copy (.t 0)) 8192,
 .e 14 (.copy (.t 1)) 8200,
 .e 15 (.call (.c (.fn 62 [])) [(.t 13), (.t 14)]) 8208,
 .e 16 (.bslice 8 [(.int .i64 0), (.str []), (.str []), (.str []), (.str []), (.str []), (.str []), (.int .i64 0)] 0 []) 8216,
 .e 5 (.copy (.t 15)) 8224,
 .e 6 (.copy (.t 16)) 8232])
 (.seq
 (.seq
 (.region 2 false [
 .e 7 (.copy (.c (.int .i64 0))) 16384])
 (.block 0
 (.loop
 (.seq
 (.seq
 (.region 3 false [
 .e 17 (.copy (.t 7)) 24576,
 .e 18 (.copy (.t 5)) 24584,
 .e 19 (.len (.t 18)) 24592,
 .e 20 (.bin .lss (.t 17) (.t 19)) 24600])
 (.cond (.t 20)
 .skip
 (.exit 0)))
 (.seq
 (.block 1
 (.seq
 (.region 5 false [
 .e 23 (.copy (.t 5)) 40960,
 .e 24 (.copy (.t 7)) 40968,
 .e 25 (.iaddr 3 (.t 23) (.t 24)) 40976,
 .e 26 (.faddr 0 (.t 25)) 40984,
 .e 27 (.load false 1 (.t 26)) 40992,
 .e 8 (.copy (.t 27)) 41000])
 (.seq
 (.region 6 false [
 .e 29 (.copy (.t 0)) 49152,
 .e 30 (.copy (.t 8)) 49160,
 .e 31 (.call (.c (.fn 63 [])) [(.t 29), (.t 30)]) 49168,
 .e 28 (.copy (.t 31)) 49176,
 .e 32 (.extract (.t 28) 0) 49184,
 .e 33 (.extract (.t 28) 1) 49192,
 .e 9 (.alloc [(.str []), (.str []), (.int .i64 0)]) 49200,
 .h (.store 3 (.t 9) (.t 32)) 49208 [],
 .e 10 (.copy (.t 33)) 49216])
 (.seq
 (.region 7 false [
 .e 35 (.copy (.t 1)) 57344,
 .e 36 (.copy (.t 8)) 57352,
 .e 37 (.call (.c (.fn 63 [])) [(.t 35), (.t 36)]) 57360,
 .e 34 (.copy (.t 37)) 57368,
 .e 38 (.extract (.t 34) 0) 57376,
 .e 39 (.extract (.t 34) 1) 57384,
 .e 11 (.alloc [(.str []), (.str []), (.int .i64 0)]) 57392,
 .h (.store 3 (.t 11) (.t 38)) 57400 [],
 .e 12 (.copy (.t 39)) 57408])
 (.seq
 (.region 8 false [
 .e 40 (.copy (.t 12)) 65536,
 .e 41 (.not (.t 40)) 65544])
 (.cond (.t 41)
 (.region 9 false [
 .e 42 (.copy (.t 6)) 73728,
 .e 43 (.copy (.t 8)) 73736,
 .e 44 (.build [(.int .i64 0), (.str []), (.str []), (.str []), (.str []), (.str []), (.str []), (.int .i64 0)] [(0, 1, (.c (.int .i64 2))), (1, 1, (.t 43))]) 73744,
 .e 45 (.bslice 8 [(.int .i64 0), (.str []), (.str []), (.str []), (.str []), (.str []), (.str []), (.int .i64 0)] 1 [(0, (.t 44))]) 73752,
 .e 46 (.append 8 112 [(.int .i64 0), (.str []), (.str []), (.str []), (.str []), (.str []), (.str []), (.int .i64 0)] (.t 42) (.t 45)) 73760,
 .e 6 (.copy (.t 46)) 73768])
 (.seq
 (.region 10 false [
 .e 47 (.copy (.t 10)) 81920,
 .e 48 (.not (.t 47)) 81928,
 .e 49 (.copy (.t 48)) 81936,
 .g 50 (.load true 3 (.t 9)) 2 49 false 81944 [],
 .g 51 (.load true 3 (.t 11)) 2 49 false 81952 [],
 .g 52 (.eqc true [2, 2, 1] (.t 50) (.t 51)) 2 49 false 81960 [],
 .e 53 (.pick (.t 49) (.c (.bool true)) (.t 52)) 81968])
 (.cond (.t 53)
 (.region 11 false [
 .e 54 (.copy (.t 6)) 90112,
 .e 55 (.copy (.t 8)) 90120,
 .e 56 (.faddr 1 (.t 11)) 90128,
 .e 57 (.load false 1 (.t 56)) 90136,
 .e 58 (.faddr 2 (.t 11)) 90144,
 .e 59 (.load false 1 (.t 58)) 90152,
 .e 60 (.build [(.int .i64 0), (.str []), (.str []), (.str []), (.str []), (.str []), (.str []), (.int .i64 0)] [(0, 1, (.c (.int .i64 1))), (1, 1, (.t 55)), (2, 1, (.t 57)), (7, 1, (.t 59))]) 90160,
 .e 61 (.bslice 8 [(.int .i64 0), (.str []), (.str []), (.str []), (.str []), (.str []), (.str []), (.int .i64 0)] 1 [(0, (.t 60))]) 90168,
 .e 62 (.append 8 112 [(.int .i64 0), (.str []), (.str []), (.str []), (.str []), (.str []), (.str []), (.int .i64 0)] (.t 54) (.t 61)) 90176,
 .e 6 (.copy (.t 62)) 90184])
 .skip))))))))
 (.region 4 false [
 .e 21 (.copy (.t 7)) 32768,
 .e 22 (.bin .add (.t 21) (.c (.int .i64 1))) 32776,
 .e 7 (.copy (.t 22)) 32784]))))))
 (.seq
 (.region 12 false [
 .e 63 (.copy (.t 6)) 98304,
 .e 4 (.copy (.t 63)) 98312])
 .ret))))
theorem vf29 : VF Tryz.prog 29 = some (64, vc29, [.tmp 4]) := by kernel_rfl
theorem xUL {α : Type} {a b : List α} (h : a.length = b.length) {i : Nat} (hi : a.length ≤ i) (ht : a.take i = b.take i) : a = b := by
  rwa [List.take_of_length_le hi, List.take_of_length_le (by omega)] at ht
theorem xNM {a b : List PairL} (ha : a.length ≤ 1000000000) (hb : b.length ≤ 1000000000) : VC Tryz.prog 26 [.sh false (a.map encP), .sh false (b.map encP)] [] (.bool (decide (a = b))) [] := by
  have ma : (a.map encP).length = a.length := List.length_map _
  have mb : (b.map encP).length = b.length := List.length_map _
  by_cases hl : a.length = b.length
  · have g1 : (!(((a.map encP).length : Int) == ((b.map encP).length : Int))) = false := by rw [ma, mb, hl]; simp
    refine vcs vf26 ?_
    repeat first|refine sgo ?_|refine sop ?_
    refine cndf (xAB ?_)
    repeat first|refine sgo ?_|refine sop ?_
    refine xAE (fun (g : Nat) => [(0, .sh false (a.map encP)), (1, .sh false (b.map encP)), (5, .int .i64 g)]) (fun g => []) (fun g => a.length - g)
      (fun g => g ≤ a.length ∧ a.take g = b.take g) 0 xAi ⟨Nat.zero_le _, rfl⟩ ?_
    rintro i ⟨hi, hv⟩
    (try dsimp only)
    repeat first|refine sgo ?_|refine sop ?_
    refine cnd (fun h => xAB ?_) (fun h => xAD ?_)
    · have hlt : i < a.length := by have h' := of_decide_eq_true h; omega
      obtain ⟨x, hx⟩ : ∃ x, a[i]? = some x := ⟨_, List.getElem?_eq_getElem hlt⟩
      obtain ⟨y, hy⟩ : ∃ x, b[i]? = some x := ⟨_, List.getElem?_eq_getElem (by omega)⟩
      have hxe := gm (enc := encP) (n := (i : Int)) hx (by omega)
      have hye := gm (enc := encP) (n := (i : Int)) hy (by omega)
      have hlt2 : (i : Int) < ((b.map encP).length : Nat) := by omega
      repeat first|refine sgo ?_|refine o_v0 (xON x y) ?_|refine sop ?_
      by_cases he : x = y
      · refine cndf (xAB ?_) rfl (by simp [he])
        repeat first|refine sgo ?_|refine sop ?_
        refine agn (Q := fun _ _ => True) (i + 1) ⟨by omega, ?_⟩ xAi
        rw [List.take_add_one, List.take_add_one, hx, hy, hv, he]
      · refine cndt ?_ rfl (by simp [he])
        repeat first|refine sgo ?_|refine sop ?_
        have : decide (a = b) = false := decide_eq_false fun e => he (by rw [e, hy] at hx; cases hx; rfl)
        rw [this]
        exact xAC ⟨.inr rfl, oAny rfl⟩
    · have hge : i = a.length := by have h' := of_decide_eq_false h; omega
      have : decide (a = b) = true := decide_eq_true (xUL hl (by omega) hv)
      rw [this]
      repeat first|refine sgo ?_|refine sop ?_
      exact xAC ⟨.inr rfl, oAny rfl⟩
  · have g1 : (!(((a.map encP).length : Int) == ((b.map encP).length : Int))) = true := by rw [ma, mb]; simp; omega
    have : decide (a = b) = false := decide_eq_false fun e => hl (by rw [e])
    rw [this]
    refine vcs vf26 ?_
    repeat first|refine sgo ?_|refine sop ?_
    refine cndt ?_
    repeat first|refine sgo ?_|refine sop ?_
    exact xAC ⟨.inr rfl, oAny rfl⟩
theorem xSU {a b : List MsgL} (ha : a.length ≤ 1000000000) (hb : b.length ≤ 1000000000) : VC Tryz.prog 17 [.sh false (a.map encM), .sh false (b.map encM)] [] (.bool (decide (a = b))) [] := by
  have ma : (a.map encM).length = a.length := List.length_map _
  have mb : (b.map encM).length = b.length := List.length_map _
  by_cases hl : a.length = b.length
  · have g1 : (!(((a.map encM).length : Int) == ((b.map encM).length : Int))) = false := by rw [ma, mb, hl]; simp
    refine vcs vf17 ?_
    repeat first|refine sgo ?_|refine sop ?_
    refine cndf (xAB ?_)
    repeat first|refine sgo ?_|refine sop ?_
    refine xAE (fun (g : Nat) => [(0, .sh false (a.map encM)), (1, .sh false (b.map encM)), (5, .int .i64 g)]) (fun g => []) (fun g => a.length - g)
      (fun g => g ≤ a.length ∧ a.take g = b.take g) 0 xAi ⟨Nat.zero_le _, rfl⟩ ?_
    rintro i ⟨hi, hv⟩
    (try dsimp only)
    repeat first|refine sgo ?_|refine sop ?_
    refine cnd (fun h => xAB ?_) (fun h => xAD ?_)
    · have hlt : i < a.length := by have h' := of_decide_eq_true h; omega
      obtain ⟨x, hx⟩ : ∃ x, a[i]? = some x := ⟨_, List.getElem?_eq_getElem hlt⟩
      obtain ⟨y, hy⟩ : ∃ x, b[i]? = some x := ⟨_, List.getElem?_eq_getElem (by omega)⟩
      have hxe := gm (enc := encM) (n := (i : Int)) hx (by omega)
      have hye := gm (enc := encM) (n := (i : Int)) hy (by omega)
      have hlt2 : (i : Int) < ((b.map encM).length : Nat) := by omega
      repeat first|refine sgo ?_|refine o_v0 (veqM x y) ?_|refine sop ?_
      by_cases he : x = y
      · refine cndf (xAB ?_) rfl (by simp [he])
        repeat first|refine sgo ?_|refine sop ?_
        refine agn (Q := fun _ _ => True) (i + 1) ⟨by omega, ?_⟩ xAi
        rw [List.take_add_one, List.take_add_one, hx, hy, hv, he]
      · refine cndt ?_ rfl (by simp [he])
        repeat first|refine sgo ?_|refine sop ?_
        have : decide (a = b) = false := decide_eq_false fun e => he (by rw [e, hy] at hx; cases hx; rfl)
        rw [this]
        exact xAC ⟨.inr rfl, oAny rfl⟩
    · have hge : i = a.length := by have h' := of_decide_eq_false h; omega
      have : decide (a = b) = true := decide_eq_true (xUL hl (by omega) hv)
      rw [this]
      repeat first|refine sgo ?_|refine sop ?_
      exact xAC ⟨.inr rfl, oAny rfl⟩
  · have g1 : (!(((a.map encM).length : Int) == ((b.map encM).length : Int))) = true := by rw [ma, mb]; simp; omega
    have : decide (a = b) = false := decide_eq_false fun e => hl (by rw [e])
    rw [this]
    refine vcs vf17 ?_
    repeat first|refine sgo ?_|refine sop ?_
    refine cndt ?_
    repeat first|refine sgo ?_|refine sop ?_
    exact xAC ⟨.inr rfl, oAny rfl⟩
def zPr : PairL := ⟨[], [], 0⟩
theorem xPx {a b : List PairL} (hl : a.length + b.length ≤ 100000000) : VC Tryz.prog 62 [.sh false (a.map encP), .sh false (b.map encP)] [] (.sh false ((b.foldl putL a).map encP)) [] := by
  have mb : (b.map encP).length = b.length := List.length_map _
  refine xEA (v := ownV ⟨0, 0⟩ ((b.foldl putL a).map encP)) (hout := [blkV 3 ((b.foldl putL a).map encP)]) ?_ (xAZ rfl rfl)
  refine vcs vf62 ?_
  repeat first|refine sgo ?_|refine o_v (vaps encP [] a) ?_|refine sop ?_
  refine xAE (fun (g : Nat) => [(1, .sh false (b.map encP)), (5, ownV ⟨1, 8192⟩ (((b.take g).foldl putL a).map encP)), (6, .int .i64 g)]) (fun g => [(⟨1, 8192⟩, blkV 3 (((b.take g).foldl putL a).map encP))]) (fun g => b.length - g)
    (fun g => g ≤ b.length) 0 xAi (Nat.zero_le _) ?_
  intro i hi
  repeat first|refine sgo ?_|refine sop ?_
  refine cnd (fun h => xAB ?_) (fun h => xAD ?_)
  · have hlt : i < b.length := by have h' := of_decide_eq_true h; omega
    obtain ⟨x, hx⟩ : ∃ x, b[i]? = some x := ⟨_, List.getElem?_eq_getElem hlt⟩
    have hxe := gm (enc := encP) (n := (i : Int)) hx (by omega)
    have hpl := xE1 (b.take i) a
    rw [List.length_take] at hpl
    have hp := put_vc (q := .sh false (((b.take i).foldl putL a).map encP)) (xs := (b.take i).foldl putL a) (p := x) Sl.sh (by omega)
    rw [← xQF hx] at hp
    repeat first|refine sgo ?_|refine cv hp ?_|refine sop ?_
    exact agn (Q := fun _ _ => True) (i + 1) (by omega) (xTX ⟨1, 41000⟩ ⟨1, 8192⟩)
  · have hge : i = b.length := by have h' := of_decide_eq_false h; omega
    subst hge
    rw [List.take_length]
    repeat first|refine sgo ?_|refine sop ?_
    exact xAC ⟨.inr rfl, oOwn rfl⟩
theorem xLL {t : List PairL} (k : Str) (hl : t.length ≤ 100000000) : VC Tryz.prog 63 [.sh false (t.map encP), .str k] [] (.tup [.agg (encP ((xAI t k).getD zPr)), .bool (xAI t k).isSome]) [] := by
  have mb : (t.map encP).length = t.length := List.length_map _
  refine xBV vf63 ?_ (Nat.le_of_ble_eq_true rfl) (by intro vs h; cases h; simp)
  repeat first|refine sgo ?_|refine sop ?_
  refine xAE (fun (g : Nat) => [(0, .sh false (t.map encP)), (1, .str k), (4, .ptr ⟨1, 0⟩ 1 0 0), (6, .int .i64 g)]) (fun g => [(⟨1, 0⟩, ⟨true, false, 3, [[.str [], .str [], .int .i64 0]]⟩)]) (fun g => t.length - g)
    (fun g => g ≤ t.length ∧ xAI (t.drop g) k = xAI t k) 0 xAi ⟨Nat.zero_le _, rfl⟩ ?_
  rintro i ⟨hi, hv⟩
  (try dsimp only)
  repeat first|refine sgo ?_|refine sop ?_
  refine cnd (fun h => xAB ?_) (fun h => xAD ?_)
  · have hlt : i < t.length := by have h' := of_decide_eq_true h; omega
    obtain ⟨x, hx⟩ : ∃ x, t[i]? = some x := ⟨_, List.getElem?_eq_getElem hlt⟩
    have hxe := gm (enc := encP) (n := (i : Int)) hx (by omega)
    rw [xAo hx, xAF] at hv
    repeat first|refine sgo ?_|refine sop ?_
    refine cnd (fun h2 => ?_) (fun h2 => xAB ?_)
    · have h2' : x.key = k := by simpa using h2
      rw [if_pos h2'] at hv
      rw [← hv]
      repeat first|refine sgo ?_|refine sop ?_
      exact xAC ⟨.inr rfl, oAny rfl⟩
    · have h2' : ¬ x.key = k := by simpa using h2
      rw [if_neg h2'] at hv
      repeat first|refine sgo ?_|refine sop ?_
      exact agn (Q := fun _ _ => True) (i + 1) ⟨by omega, hv⟩ xAi
  · have hge : i = t.length := by have h' := of_decide_eq_false h; omega
    subst hge
    rw [List.drop_length] at hv
    rw [← hv]
    repeat first|refine sgo ?_|refine sop ?_
    exact xAC ⟨.inr rfl, oAny rfl⟩
theorem xV0 {α β : Type} (f : α → Option β) {l : List α} {i : Nat} {x : α} (h : l[i]? = some x) : (l.take (i + 1)).filterMap f = (l.take i).filterMap f ++ (f x).toList := by
  rw [List.take_add_one, h, Option.toList_some, List.filterMap_append]
  cases hf : f x <;> simp [hf]
theorem fm_len {α β : Type} (f : α → Option β) (l : List α) (i : Nat) : ((l.take i).filterMap f).length ≤ l.length := by
  have := List.length_filterMap_le f (l.take i)
  rw [List.length_take] at this
  omega
set_option maxHeartbeats 4000000 in
theorem xOg {a b : List PairL} (ha : Srt a) (hb : Srt b) (hl : a.length + b.length ≤ 1000000) : VC Tryz.prog 29 [.sh false (a.map encP), .sh false (b.map encP)] [] (.sh false ((refD a b).map encM)) [] := by
  have hu := xPx (a := a) (b := b) (by omega)
  rw [xGa ha hb] at hu
  have hul := xDp a b
  unfold refD
  generalize xAq a b = u at *
  have mu : (u.map encP).length = u.length := List.length_map _
  refine xEA (v := ownV ⟨0, 0⟩ ((u.filterMap fun z => oneD a b z.key).map encM)) (hout := [blkV 8 ((u.filterMap fun z => oneD a b z.key).map encM)]) ?_ (xAZ rfl rfl)
  refine vcs vf29 ?_
  repeat first|refine sgo ?_|refine cf hu ?_|refine sop ?_
  refine xAE (fun (g : Nat) => [(0, .sh false (a.map encP)), (1, .sh false (b.map encP)), (5, .sh false (u.map encP)), (6, ownV ⟨1, 8216⟩ (((u.take g).filterMap fun z => oneD a b z.key).map encM)), (7, .int .i64 g)]) (fun g => [(⟨1, 8216⟩, blkV 8 (((u.take g).filterMap fun z => oneD a b z.key).map encM))]) (fun g => u.length - g)
    (fun g => g ≤ u.length) 0 xAi (Nat.zero_le _) ?_
  intro i hi
  (try dsimp only)
  have hfl := fm_len (fun z => oneD a b z.key) u i
  repeat first|refine sgo ?_|refine sop ?_
  refine cnd (fun h => xAB ?_) (fun h => xAD ?_)
  · have hlt : i < u.length := by have h' := of_decide_eq_true h; omega
    obtain ⟨x, hx⟩ : ∃ x, u[i]? = some x := ⟨_, List.getElem?_eq_getElem hlt⟩
    have hxe := gm (enc := encP) (n := (i : Int)) hx (by omega)
    have hst : (u.take (i + 1)).filterMap (fun z => oneD a b z.key) = (u.take i).filterMap (fun z => oneD a b z.key) ++ (oneD a b x.key).toList := xV0 (fun z => oneD a b z.key) hx
    have f1 := xLL (t := a) x.key (by omega)
    have f2 := xLL (t := b) x.key (by omega)
    generalize hout : (u.take i).filterMap (fun z => oneD a b z.key) = out at *
    rw [show oneD a b x.key = (match xAI b x.key with
      | none => some (delD x.key)
      | some q => if xAI a x.key = some q then none else some ⟨1, x.key, q.val, ⟨[], []⟩, [], [], q.stamp⟩) from rfl] at hst
    cases hB : xAI b x.key with
    | none =>
      rw [hB] at hst f2
      simp only [Option.toList_some] at hst
      repeat first|refine sgo ?_|refine cv0 f1 ?_|refine cv0 f2 ?_|refine sop ?_
      refine cndt ?_
      repeat first|refine sgo ?_|refine o_v (vap encM (delD x.key)) ?_|refine sop ?_
      refine agn (Q := fun _ _ => True) (i + 1) (by omega) ?_
      rw [hst]
      exact xAi
    | some q =>
      rw [hB] at hst f2
      simp only at hst
      cases hA : xAI a x.key with
      | none =>
        rw [hA] at hst f1
        rw [if_neg (by simp)] at hst
        simp only [Option.toList_some] at hst
        repeat first|refine sgo ?_|refine cv0 f1 ?_|refine cv0 f2 ?_|refine sop ?_
        refine cndf ?_
        repeat first|refine sgo ?_|refine sop ?_
        refine cndt ?_
        repeat first|refine sgo ?_|refine o_v (vap encM (⟨1, x.key, q.val, ⟨[], []⟩, [], [], q.stamp⟩ : MsgL)) ?_|refine sop ?_
        refine agn (Q := fun _ _ => True) (i + 1) (by omega) ?_
        rw [hst]
        exact xAi
      | some p =>
        rw [hA] at hst f1
        by_cases he : p = q
        · rw [if_pos (by rw [he])] at hst
          simp only [Option.toList_none, List.append_nil] at hst
          repeat first|refine sgo ?_|refine cv0 f1 ?_|refine cv0 f2 ?_|refine sop ?_
          refine cndf ?_
          repeat first|refine sgo ?_|refine o_v0 (xON p q) ?_|refine sop ?_
          refine cndf (xAB ?_) rfl (by simp [he])
          repeat first|refine sgo ?_|refine sop ?_
          refine agn (Q := fun _ _ => True) (i + 1) (by omega) ?_
          rw [hst]
          exact xAi
        · rw [if_neg (by intro h; exact he (by cases h; rfl))] at hst
          simp only [Option.toList_some] at hst
          repeat first|refine sgo ?_|refine cv0 f1 ?_|refine cv0 f2 ?_|refine sop ?_
          refine cndf ?_
          repeat first|refine sgo ?_|refine o_v0 (xON p q) ?_|refine sop ?_
          refine cndt ?_ rfl (by simp [he])
          repeat first|refine sgo ?_|refine o_v (vap encM (⟨1, x.key, q.val, ⟨[], []⟩, [], [], q.stamp⟩ : MsgL)) ?_|refine sop ?_
          refine agn (Q := fun _ _ => True) (i + 1) (by omega) ?_
          rw [hst]
          exact xAi
  · have hge : i = u.length := by have h' := of_decide_eq_false h; omega
    subst hge
    rw [List.take_length]
    repeat first|refine sgo ?_|refine sop ?_
    exact xAC ⟨.inr rfl, oOwn rfl⟩
end Go.Proofs
