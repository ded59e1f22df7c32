/- Fa -/
import Derived.Test.YtehegheohogbpaaGreatMa
import Derived.Test.YtehegheohogbpaaGreatPu
import Derived.Test.YtehegheohogbpaaGreatVD
open Go.V Go.Pu
open Go.V renaming xA4 → zA, nl → zB, xAQ → zC, rg → zD, xAK → zE, bq → zF, xBD → zL, xBE → zM, xA2 → zO, xAo → zP, xAn → zQ, xCp → zT, xEX → zU, xCo → zW, xBt → zX, xB6 → zY, xDW → zZ
set_option linter.unusedVariables false
set_option linter.unusedSimpArgs false
set_option maxRecDepth 20000
namespace Go.Proofs
def vc76 : VCode :=
 (.seq
 (.region 0 false [
 .e 4 (.copy (.c .nils)) 0])
 (.seq
 (.seq
 (.region 1 false [
 .e 5 (.copy (.t 1)) 8192,
 .e 6 (.bin .lss (.t 5) (.c (.int .i64 0))) 8200])
 (.cond (.t 6)
 (.region 2 false [
 .e 7 (.mkifc 9 (.c (.str [99, 97, 110, 110, 111, 116, 32, 98, 101, 32, 110, 101, 103, 97, 116, 105, 118, 101]))) 16384,
 .h (.bad) 16392 []])
 .skip))
 (.seq
 (.seq
 (.region 3 false [
 .e 8 (.copy (.t 1)) 24576,
 .e 9 (.copy (.t 0)) 24584,
 .e 10 (.cap (.t 9)) 24592,
 .e 11 (.copy (.t 0)) 24600,
 .e 12 (.len (.t 11)) 24608,
 .e 13 (.bin .sub (.t 10) (.t 12)) 24616,
 .e 14 (.bin .sub (.t 8) (.t 13)) 24624,
 .e 1 (.copy (.t 14)) 24632])
 (.seq
 (.region 4 false [
 .e 15 (.copy (.t 1)) 32768,
 .e 16 (.bin .gtr (.t 15) (.c (.int .i64 0))) 32776])
 (.cond (.t 16)
 (.region 5 false [
 .e 17 (.copy (.t 0)) 40960,
 .e 18 (.copy (.t 0)) 40968,
 .e 19 (.cap (.t 18)) 40976,
 .e 20 (.slsl 2 (.t 17) none (some (.t 19)) none) 40984,
 .e 21 (.copy (.t 1)) 40992,
 .e 22 (.appZ 2 32 [(.str []), (.str [])] (.t 20) (.t 21)) 41000,
 .e 23 (.copy (.t 0)) 41008,
 .e 24 (.len (.t 23)) 41016,
 .e 25 (.slsl 2 (.t 22) none (some (.t 24)) none) 41024,
 .e 0 (.copy (.t 25)) 41032])
 .skip)))
 (.seq
 (.region 6 false [
 .e 26 (.copy (.t 0)) 49152,
 .e 4 (.copy (.t 26)) 49160])
 .ret))))
theorem vf76 : VF Tryz.prog 76 = some (27, vc76, [.tmp 4]) := by kernel_rfl
def vc58 : VCode :=
 (.seq
 (.region 0 false [
 .e 2 (.copy (.c .nils)) 0])
 (.seq
 (.region 1 false [
 .e 3 (.copy (.c (.int .i64 0))) 8192])
 (.seq
 (.seq
 (.region 2 false [
 .e 9 (.copy (.t 0)) 16384,
 .e 10 (.len (.t 9)) 16392,
 .e 11 (.copy (.c (.int .i64 0))) 16400])
 (.block 0
 (.loop
 (.seq
 (.region 3 false [
 .e 12 (.bin .lss (.t 11) (.t 10)) 24576])
 (.seq
 (.cond (.t 12)
 .skip
 (.exit 0))
 (.seq
 (.block 1
 (.seq
 (.region 4 false [
 .e 13 (.iaddr 1 (.t 9) (.t 11)) 32768,
 .e 14 (.load false 1 (.t 13)) 32776,
 .e 5 (.copy (.t 14)) 32784])
 (.seq
 (.region 5 false [
 .e 15 (.copy (.t 3)) 40960,
 .e 16 (.copy (.t 5)) 40968,
 .e 17 (.len (.t 16)) 40976,
 .e 18 (.bin .add (.t 15) (.t 17)) 40984,
 .e 3 (.copy (.t 18)) 40992])
 (.seq
 (.region 6 false [
 .e 19 (.copy (.t 3)) 49152,
 .e 20 (.bin .lss (.t 19) (.c (.int .i64 0))) 49160])
 (.cond (.t 20)
 (.region 7 false [
 .e 21 (.mkifc 9 (.c (.str [108, 101, 110, 32, 111, 117, 116, 32, 111, 102, 32, 114, 97, 110, 103, 101]))) 57344,
 .h (.bad) 57352 []])
 .skip)))))
 (.region 8 false [
 .e 22 (.bin .add (.t 11) (.c (.int .i64 1))) 65536,
 .e 11 (.copy (.t 22)) 65544])))))))
 (.seq
 (.region 9 false [
 .e 23 (.copy (.t 3)) 73728,
 .e 24 (.call (.c (.fn 76 [])) [(.c .nils), (.t 23)]) 73736,
 .e 6 (.copy (.t 24)) 73744])
 (.seq
 (.seq
 (.region 10 false [
 .e 25 (.copy (.t 0)) 81920,
 .e 26 (.len (.t 25)) 81928,
 .e 27 (.copy (.c (.int .i64 0))) 81936])
 (.block 2
 (.loop
 (.seq
 (.region 11 false [
 .e 28 (.bin .lss (.t 27) (.t 26)) 90112])
 (.seq
 (.cond (.t 28)
 .skip
 (.exit 2))
 (.seq
 (.block 3
 (.seq
 (.region 12 false [
 .e 29 (.iaddr 1 (.t 25) (.t 27)) 98304,
 .e 30 (.load false 1 (.t 29)) 98312,
 .e 8 (.copy (.t 30)) 98320])
 (.region 13 false [
 .e 31 (.copy (.t 6)) 106496,
 .e 32 (.copy (.t 8)) 106504,
 .e 33 (.append 2 32 [(.str []), (.str [])] (.t 31) (.t 32)) 106512,
 .e 6 (.copy (.t 33)) 106520])))
 (.region 14 false [
 .e 34 (.bin .add (.t 27) (.c (.int .i64 1))) 114688,
 .e 27 (.copy (.t 34)) 114696])))))))
 (.seq
 (.region 15 false [
 .e 35 (.copy (.t 6)) 122880,
 .e 2 (.copy (.t 35)) 122888])
 .ret))))))
theorem vf58 : VF Tryz.prog 58 = some (36, vc58, [.tmp 2]) := by kernel_rfl
def vc66 : VCode :=
 (.seq
 (.region 0 false [
 .e 4 (.copy (.c .nils)) 0])
 (.seq
 (.seq
 (.region 1 false [
 .e 5 (.copy (.t 1)) 8192,
 .e 6 (.bin .lss (.t 5) (.c (.int .i64 0))) 8200])
 (.cond (.t 6)
 (.region 2 false [
 .e 7 (.mkifc 9 (.c (.str [99, 97, 110, 110, 111, 116, 32, 98, 101, 32, 110, 101, 103, 97, 116, 105, 118, 101]))) 16384,
 .h (.bad) 16392 []])
 .skip))
 (.seq
 (.seq
 (.region 3 false [
 .e 8 (.copy (.t 1)) 24576,
 .e 9 (.copy (.t 0)) 24584,
 .e 10 (.cap (.t 9)) 24592,
 .e 11 (.copy (.t 0)) 24600,
 .e 12 (.len (.t 11)) 24608,
 .e 13 (.bin .sub (.t 10) (.t 12)) 24616,
 .e 14 (.bin .sub (.t 8) (.t 13)) 24624,
 .e 1 (.copy (.t 14)) 24632])
 (.seq
 (.region 4 false [
 .e 15 (.copy (.t 1)) 32768,
 .e 16 (.bin .gtr (.t 15) (.c (.int .i64 0))) 32776])
 (.cond (.t 16)
 (.region 5 false [
 .e 17 (.copy (.t 0)) 40960,
 .e 18 (.copy (.t 0)) 40968,
 .e 19 (.cap (.t 18)) 40976,
 .e 20 (.slsl 8 (.t 17) none (some (.t 19)) none) 40984,
 .e 21 (.copy (.t 1)) 40992,
 .e 22 (.appZ 8 112 [(.int .i64 0), (.str []), (.str []), (.str []), (.str []), (.str []), (.str []), (.int .i64 0)] (.t 20) (.t 21)) 41000,
 .e 23 (.copy (.t 0)) 41008,
 .e 24 (.len (.t 23)) 41016,
 .e 25 (.slsl 8 (.t 22) none (some (.t 24)) none) 41024,
 .e 0 (.copy (.t 25)) 41032])
 .skip)))
 (.seq
 (.region 6 false [
 .e 26 (.copy (.t 0)) 49152,
 .e 4 (.copy (.t 26)) 49160])
 .ret))))
theorem vf66 : VF Tryz.prog 66 = some (27, vc66, [.tmp 4]) := by kernel_rfl
def vc38 : VCode :=
 (.seq
 (.region 0 false [
 .e 2 (.copy (.c .nils)) 0])
 (.seq
 (.region 1 false [
 .e 3 (.copy (.c (.int .i64 0))) 8192])
 (.seq
 (.seq
 (.region 2 false [
 .e 9 (.copy (.t 0)) 16384,
 .e 10 (.len (.t 9)) 16392,
 .e 11 (.copy (.c (.int .i64 0))) 16400])
 (.block 0
 (.loop
 (.seq
 (.region 3 false [
 .e 12 (.bin .lss (.t 11) (.t 10)) 24576])
 (.seq
 (.cond (.t 12)
 .skip
 (.exit 0))
 (.seq
 (.block 1
 (.seq
 (.region 4 false [
 .e 13 (.iaddr 1 (.t 9) (.t 11)) 32768,
 .e 14 (.load false 1 (.t 13)) 32776,
 .e 5 (.copy (.t 14)) 32784])
 (.seq
 (.region 5 false [
 .e 15 (.copy (.t 3)) 40960,
 .e 16 (.copy (.t 5)) 40968,
 .e 17 (.len (.t 16)) 40976,
 .e 18 (.bin .add (.t 15) (.t 17)) 40984,
 .e 3 (.copy (.t 18)) 40992])
 (.seq
 (.region 6 false [
 .e 19 (.copy (.t 3)) 49152,
 .e 20 (.bin .lss (.t 19) (.c (.int .i64 0))) 49160])
 (.cond (.t 20)
 (.region 7 false [
 .e 21 (.mkifc 9 (.c (.str [108, 101, 110, 32, 111, 117, 116, 32, 111, 102, 32, 114, 97, 110, 103, 101]))) 57344,
 .h (.bad) 57352 []])
 .skip)))))
 (.region 8 false [
 .e 22 (.bin .add (.t 11) (.c (.int .i64 1))) 65536,
 .e 11 (.copy (.t 22)) 65544])))))))
 (.seq
 (.region 9 false [
 .e 23 (.copy (.t 3)) 73728,
 .e 24 (.call (.c (.fn 66 [])) [(.c .nils), (.t 23)]) 73736,
 .e 6 (.copy (.t 24)) 73744])
 (.seq
 (.seq
 (.region 10 false [
 .e 25 (.copy (.t 0)) 81920,
 .e 26 (.len (.t 25)) 81928,
 .e 27 (.copy (.c (.int .i64 0))) 81936])
 (.block 2
 (.loop
 (.seq
 (.region 11 false [
 .e 28 (.bin .lss (.t 27) (.t 26)) 90112])
 (.seq
 (.cond (.t 28)
 .skip
 (.exit 2))
 (.seq
 (.block 3
 (.seq
 (.region 12 false [
 .e 29 (.iaddr 1 (.t 25) (.t 27)) 98304,
 .e 30 (.load false 1 (.t 29)) 98312,
 .e 8 (.copy (.t 30)) 98320])
 (.region 13 false [
 .e 31 (.copy (.t 6)) 106496,
 .e 32 (.copy (.t 8)) 106504,
 .e 33 (.append 8 112 [(.int .i64 0), (.str []), (.str []), (.str []), (.str []), (.str []), (.str []), (.int .i64 0)] (.t 31) (.t 32)) 106512,
 .e 6 (.copy (.t 33)) 106520])))
 (.region 14 false [
 .e 34 (.bin .add (.t 27) (.c (.int .i64 1))) 114688,
 .e 27 (.copy (.t 34)) 114696])))))))
 (.seq
 (.region 15 false [
 .e 35 (.copy (.t 6)) 122880,
 .e 2 (.copy (.t 35)) 122888])
 .ret))))))
theorem vf38 : VF Tryz.prog 38 = some (36, vc38, [.tmp 2]) := by kernel_rfl
abbrev xIF (l : List SpanL) : List PV := [.sh false (l.map encS)]
abbrev xIG (l : List MsgL) : List PV := [.sh false (l.map encM)]
def zS : SpanL := ⟨[], []⟩
def xG0 : SpanL := ⟨[], []⟩
theorem xM4 : VC Tryz.prog 76 [.nils, .int .i64 0] [] .nils [] := by
  refine xAG vf76 ?_ (Nat.le_of_ble_eq_true rfl) (by intro vs h; cases h)
  repeat first|refine zA ?_|refine zB ?_|refine zC ?_|refine zD ?_|refine zE ?_|refine zF ?_|refine zU ?_|refine zX ?_|refine zY ?_|refine zZ ?_
  refine cndf (xAB ?_)
  repeat first|refine zA ?_|refine zB ?_|refine zC ?_|refine zD ?_|refine zE ?_|refine zF ?_|refine o_v0 xLB ?_|refine zU ?_|refine zX ?_|refine zY ?_|refine zZ ?_
  refine cndf (xAB ?_)
  repeat first|refine zA ?_|refine zB ?_|refine zC ?_|refine zD ?_|refine zE ?_|refine zF ?_|refine zU ?_|refine zX ?_|refine zY ?_|refine zZ ?_
  exact xAC ⟨.inr rfl, oAny rfl⟩
theorem xOa {n : Nat} (h0 : 0 < n) (h1 : n ≤ 1000000) : VC Tryz.prog 76 [.nils, .int .i64 n] [] (.own ⟨0, 0⟩ n 0 0) [blkV 2 (List.replicate n (encS xG0))] := by
  refine xAG vf76 ?_ (Nat.le_of_ble_eq_true rfl) (by intro vs h; cases h)
  have s1 : bin .sub (.int .i64 0) (.int .i64 (([] : List (List PV)).length : Int)) = some (.int .i64 0) := rfl
  have s2 : bin .sub (.int .i64 (n : Int)) (.int .i64 0) = some (.int .i64 (n : Int)) := by
    show some (PV.int .i64 (IntKind.i64.wrap ((n : Int) - 0))) = _
    rw [Int.sub_zero, xCu (by omega) (by omega)]
  repeat first|refine zA ?_|refine zB ?_|refine zC ?_|refine zD ?_|refine zE ?_|refine zF ?_|refine zU ?_|refine zX ?_|refine zY ?_|refine zZ ?_
  refine cndf (xAB ?_) rfl (decide_eq_false (by omega))
  repeat first|refine zA ?_|refine zB ?_|refine zC ?_|refine zD ?_|refine zE ?_|refine zF ?_|refine o_v0 xLB ?_|refine xBU s1 ?_|refine xBU s2 ?_|refine zU ?_|refine zX ?_|refine zY ?_|refine zZ ?_
  refine cndt ?_ rfl (decide_eq_true (by omega))
  repeat first|refine zA ?_|refine zB ?_|refine zC ?_|refine zD ?_|refine zE ?_|refine zF ?_|refine o_v0 xLB ?_|refine o_v0 vsln ?_|refine o_v (vappz (n := n)) ?_|refine xF5 (a := 0) (z := 0) ?_|refine zU ?_|refine zX ?_|refine zY ?_|refine zZ ?_
  exact xAC ⟨.inr rfl, xJi rfl rfl rfl (by decide)⟩
def totS (ls : List (List SpanL)) : Nat := (ls.map List.length).sum
theorem xIR (l : List SpanL) (ls : List (List SpanL)) : totS (l :: ls) = l.length + totS ls := by simp [totS]
theorem xLw (ls : List (List SpanL)) : ls.flatten.length = totS ls := by simp [totS, List.length_flatten]
set_option maxHeartbeats 1000000 in
theorem xLe {q : PV} {ls : List (List SpanL)} (hq : Sl q (ls.map xIF)) (hl : ls.length ≤ 1000000) (ht : totS ls ≤ 1000000) : VC Tryz.prog 58 [q] [] (ownV ⟨0, 0⟩ (ls.flatten.map encS)) [blkV 2 (ls.flatten.map encS)] := by
  refine xAG vf58 ?_ (Nat.le_of_ble_eq_true rfl) (by intro vs h; cases h)
  have hml : (ls.map xIF).length = ls.length := List.length_map ..
  have htf := xLw ls
  repeat first|refine zA ?_|refine zB ?_|refine zC ?_|refine zD ?_|refine zE ?_|refine zF ?_|refine zL ?_|refine zM ?_|refine zO ?_|refine zP ?_|refine zQ ?_|refine zT ?_|refine zW ?_|refine zX ?_|refine zY ?_|refine zZ ?_
  refine xAJ (fun (g : Nat × Nat) => [(0, q), (3, .int .i64 g.2), (9, q), (10, .int .i64 (ls.map xIF).length), (11, .int .i64 g.1)])
    (fun g => []) (fun g => ls.length - g.1)
    (fun g => g.1 ≤ ls.length ∧ g.2 + totS (ls.drop g.1) = totS ls) (0, 0) goes ⟨Nat.zero_le _, by simp⟩ ?_
  rintro ⟨i, n⟩ ⟨hi, hn⟩
  dsimp only at hi hn ⊢
  repeat first|refine zA ?_|refine zB ?_|refine zC ?_|refine zD ?_|refine zE ?_|refine zF ?_|refine zL ?_|refine zM ?_|refine zO ?_|refine zP ?_|refine zQ ?_|refine zT ?_|refine zW ?_|refine zX ?_|refine zY ?_|refine zZ ?_
  refine cnd (fun h => xAB ?_) (fun h => xAE ?_)
  · have hlt : i < ls.length := by have h' := of_decide_eq_true h; omega
    obtain ⟨l, hl⟩ : ∃ x, ls[i]? = some x := ⟨_, List.getElem?_eq_getElem hlt⟩
    have hle := gm (enc := xIF) (n := (i : Int)) hl (by omega)
    rw [xAj hl, xIR] at hn
    have hll : (l.map encS).length = l.length := List.length_map ..
    repeat first|refine zA ?_|refine zB ?_|refine zC ?_|refine zD ?_|refine zE ?_|refine zF ?_|refine zL ?_|refine zM ?_|refine zO ?_|refine zP ?_|refine zQ ?_|refine zT ?_|refine zW ?_|refine zX ?_|refine zY ?_|refine zZ ?_
    refine cndf (xAB ?_) rfl (decide_eq_false (by omega))
    repeat first|refine zA ?_|refine zB ?_|refine zC ?_|refine zD ?_|refine zE ?_|refine zF ?_|refine zL ?_|refine zM ?_|refine zO ?_|refine zP ?_|refine zQ ?_|refine zT ?_|refine zW ?_|refine zX ?_|refine zY ?_|refine zZ ?_
    exact agn (i + 1, n + l.length) ⟨by simp only; omega, by simp only; omega⟩ (goes (h1 := by
      refine ⟨rfl, ?_, rfl, rfl, rfl, trivial⟩
      exact congrArg (fun z => some (PV.int .i64 z)) (by simp only [hll]; omega)))
  have hge : i = ls.length := by have h' := of_decide_eq_false h; omega
  subst hge
  have hn2 : n = totS ls := by rw [List.drop_length] at hn; simpa [totS] using hn
  subst hn2
  clear hn h
  rcases Nat.eq_zero_or_pos (totS ls) with h0 | hpos
  · have hall : ∀ (m : List (List SpanL)), totS m = 0 → ∀ l ∈ m, l = [] := by
      intro m
      induction m with
      | nil => intro _ l hl; cases hl
      | cons x m ih =>
        intro h l hl
        rw [xIR] at h
        rcases List.mem_cons.1 hl with rfl | hl
        · exact List.length_eq_zero_iff.1 (by omega)
        · exact ih (by omega) l hl
    have hfl : ls.flatten = [] := List.length_eq_zero_iff.1 (by omega)
    rw [hfl, h0]
    repeat first|refine zA ?_|refine zB ?_|refine zC ?_|refine zD ?_|refine zE ?_|refine zF ?_|refine cv0 xM4 ?_|refine zL ?_|refine zM ?_|refine zO ?_|refine zP ?_|refine zQ ?_|refine zT ?_|refine zW ?_|refine zX ?_|refine zY ?_|refine zZ ?_
    refine xAJ (fun (g : Nat) => [(6, ownV ⟨1, 106512⟩ (([] : List SpanL).map encS)), (25, q), (26, .int .i64 (ls.map xIF).length), (27, .int .i64 g)])
      (fun g => [(⟨1, 106512⟩, blkV 2 (([] : List SpanL).map encS))]) (fun g => ls.length - g)
      (fun g => g ≤ ls.length) 0 ((Imp.nil (t := 6) (b := ⟨1, 106512⟩) (esz := 2) rfl rfl (by decide)).trans goes) (Nat.zero_le _) ?_
    intro i hi
    (try dsimp only)
    repeat first|refine zA ?_|refine zB ?_|refine zC ?_|refine zD ?_|refine zE ?_|refine zF ?_|refine zL ?_|refine zM ?_|refine zO ?_|refine zP ?_|refine zQ ?_|refine zT ?_|refine zW ?_|refine zX ?_|refine zY ?_|refine zZ ?_
    refine cnd (fun h => xAB ?_) (fun h => xAE ?_)
    · have hlt : i < ls.length := by have h' := of_decide_eq_true h; omega
      obtain ⟨l, hl⟩ : ∃ x, ls[i]? = some x := ⟨_, List.getElem?_eq_getElem hlt⟩
      have hle := gm (enc := xIF) (n := (i : Int)) hl (by omega)
      have hl0 := hall ls h0 l (List.mem_of_getElem? hl)
      subst hl0
      repeat first|refine zA ?_|refine zB ?_|refine zC ?_|refine zD ?_|refine zE ?_|refine zF ?_|refine o_v (vaps encS [] []) ?_|refine zL ?_|refine zM ?_|refine zO ?_|refine zP ?_|refine zQ ?_|refine zT ?_|refine zW ?_|refine zX ?_|refine zY ?_|refine zZ ?_
      exact agn (i + 1) (by omega) goes
    · repeat first|refine zA ?_|refine zB ?_|refine zC ?_|refine zD ?_|refine zE ?_|refine zF ?_|refine zL ?_|refine zM ?_|refine zO ?_|refine zP ?_|refine zQ ?_|refine zT ?_|refine zW ?_|refine zX ?_|refine zY ?_|refine zZ ?_
      exact xAC ⟨.inr rfl, oOwn rfl⟩
  · have hrep : List.replicate (totS ls) (encS xG0) = (List.replicate (totS ls) xG0).map encS := by rw [List.map_replicate]
    have hg := xOa hpos ht
    rw [hrep] at hg
    generalize totS ls = N at *
    have hcl : (blkV 2 ((List.replicate N xG0).map encS)).frz = false ∧ ∀ e ∈ (blkV 2 ((List.replicate N xG0).map encS)).els, ∀ c ∈ e, cS c = true := ⟨rfl, by intro e he; obtain ⟨a, _, rfl⟩ := List.mem_map.1 he; simp [cS, cN, clean]⟩
    repeat first|refine zA ?_|refine zB ?_|refine zC ?_|refine zD ?_|refine zE ?_|refine zF ?_|refine cv hg ?_|refine zL ?_|refine zM ?_|refine zO ?_|refine zP ?_|refine zQ ?_|refine zT ?_|refine zW ?_|refine zX ?_|refine zY ?_|refine zZ ?_
    refine xAJ (fun (g : Nat × List SpanL) => [(6, .own ⟨1, 73736⟩ N 0 g.2.length), (25, q), (26, .int .i64 (ls.map xIF).length), (27, .int .i64 g.1)])
      (fun g => [(⟨1, 73736⟩, blkV 2 ((g.2 ++ List.replicate (N - g.2.length) xG0).map encS))]) (fun g => ls.length - g.1)
      (fun g => g.1 ≤ ls.length ∧ g.2 ++ (ls.drop g.1).flatten = ls.flatten) (0, []) goes ⟨Nat.zero_le _, rfl⟩ ?_
    rintro ⟨i, o⟩ ⟨hi, hv⟩
    dsimp only at hi hv ⊢
    have hol := congrArg List.length hv
    rw [List.length_append, htf] at hol
    repeat first|refine zA ?_|refine zB ?_|refine zC ?_|refine zD ?_|refine zE ?_|refine zF ?_|refine zL ?_|refine zM ?_|refine zO ?_|refine zP ?_|refine zQ ?_|refine zT ?_|refine zW ?_|refine zX ?_|refine zY ?_|refine zZ ?_
    refine cnd (fun h => xAB ?_) (fun h => xAE ?_)
    · have hlt : i < ls.length := by have h' := of_decide_eq_true h; omega
      obtain ⟨l, hl⟩ : ∃ x, ls[i]? = some x := ⟨_, List.getElem?_eq_getElem hlt⟩
      have hle := gm (enc := xIF) (n := (i : Int)) hl (by omega)
      rw [xAj hl, List.flatten_cons] at hv hol
      rw [List.length_append] at hol
      have e1 : o ++ l ++ (List.replicate (N - o.length) xG0).drop l.length = (o ++ l) ++ List.replicate (N - (o ++ l).length) xG0 := by
        rw [List.drop_replicate, List.length_append]; congr 2; omega
      have hrl : (List.replicate (N - o.length) xG0).length = N - o.length := List.length_replicate ..
      have e2 : o.length + l.length = (o ++ l).length := List.length_append.symm
      repeat first|refine zA ?_|refine zB ?_|refine zC ?_|refine zD ?_|refine zE ?_|refine zF ?_|refine o_v (vapfE encS o l (List.replicate (N - o.length) xG0) e1 e2) ?_|refine zL ?_|refine zM ?_|refine zO ?_|refine zP ?_|refine zQ ?_|refine zT ?_|refine zW ?_|refine zX ?_|refine zY ?_|refine zZ ?_
      refine agn (i + 1, o ++ l) ⟨by simp only; omega, by rw [← hv]; simp⟩ goes
    · have hge : i = ls.length := by have h' := of_decide_eq_false h; omega
      subst hge
      rw [List.drop_length] at hv hol
      rw [List.flatten_nil, List.append_nil] at hv
      rw [List.flatten_nil, List.length_nil] at hol
      subst hv
      simp only [htf, Nat.sub_self, List.replicate_zero, List.append_nil]
      repeat first|refine zA ?_|refine zB ?_|refine zC ?_|refine zD ?_|refine zE ?_|refine zF ?_|refine zL ?_|refine zM ?_|refine zO ?_|refine zP ?_|refine zQ ?_|refine zT ?_|refine zW ?_|refine zX ?_|refine zY ?_|refine zZ ?_
      exact xAC ⟨.inr rfl, oOwn rfl⟩
def xG1 : MsgL := ⟨0, [], [], ⟨[], []⟩, [], [], 0⟩
theorem xM5 : VC Tryz.prog 66 [.nils, .int .i64 0] [] .nils [] := by
  refine xAG vf66 ?_ (Nat.le_of_ble_eq_true rfl) (by intro vs h; cases h)
  repeat first|refine zA ?_|refine zB ?_|refine zC ?_|refine zD ?_|refine zE ?_|refine zF ?_|refine zU ?_|refine zX ?_|refine zY ?_|refine zZ ?_
  refine cndf (xAB ?_)
  repeat first|refine zA ?_|refine zB ?_|refine zC ?_|refine zD ?_|refine zE ?_|refine zF ?_|refine o_v0 xLB ?_|refine zU ?_|refine zX ?_|refine zY ?_|refine zZ ?_
  refine cndf (xAB ?_)
  repeat first|refine zA ?_|refine zB ?_|refine zC ?_|refine zD ?_|refine zE ?_|refine zF ?_|refine zU ?_|refine zX ?_|refine zY ?_|refine zZ ?_
  exact xAC ⟨.inr rfl, oAny rfl⟩
theorem xOb {n : Nat} (h0 : 0 < n) (h1 : n ≤ 1000000) : VC Tryz.prog 66 [.nils, .int .i64 n] [] (.own ⟨0, 0⟩ n 0 0) [blkV 8 (List.replicate n (encM xG1))] := by
  refine xAG vf66 ?_ (Nat.le_of_ble_eq_true rfl) (by intro vs h; cases h)
  have s1 : bin .sub (.int .i64 0) (.int .i64 (([] : List (List PV)).length : Int)) = some (.int .i64 0) := rfl
  have s2 : bin .sub (.int .i64 (n : Int)) (.int .i64 0) = some (.int .i64 (n : Int)) := by
    show some (PV.int .i64 (IntKind.i64.wrap ((n : Int) - 0))) = _
    rw [Int.sub_zero, xCu (by omega) (by omega)]
  repeat first|refine zA ?_|refine zB ?_|refine zC ?_|refine zD ?_|refine zE ?_|refine zF ?_|refine zU ?_|refine zX ?_|refine zY ?_|refine zZ ?_
  refine cndf (xAB ?_) rfl (decide_eq_false (by omega))
  repeat first|refine zA ?_|refine zB ?_|refine zC ?_|refine zD ?_|refine zE ?_|refine zF ?_|refine o_v0 xLB ?_|refine xBU s1 ?_|refine xBU s2 ?_|refine zU ?_|refine zX ?_|refine zY ?_|refine zZ ?_
  refine cndt ?_ rfl (decide_eq_true (by omega))
  repeat first|refine zA ?_|refine zB ?_|refine zC ?_|refine zD ?_|refine zE ?_|refine zF ?_|refine o_v0 xLB ?_|refine o_v0 vsln ?_|refine o_v (vappz (n := n)) ?_|refine xF5 (a := 0) (z := 0) ?_|refine zU ?_|refine zX ?_|refine zY ?_|refine zZ ?_
  exact xAC ⟨.inr rfl, xJi rfl rfl rfl (by decide)⟩
def totM (ls : List (List MsgL)) : Nat := (ls.map List.length).sum
theorem xIS (l : List MsgL) (ls : List (List MsgL)) : totM (l :: ls) = l.length + totM ls := by simp [totM]
theorem xLx (ls : List (List MsgL)) : ls.flatten.length = totM ls := by simp [totM, List.length_flatten]
set_option maxHeartbeats 1000000 in
theorem xLf {q : PV} {ls : List (List MsgL)} (hq : Sl q (ls.map xIG)) (hl : ls.length ≤ 1000000) (ht : totM ls ≤ 1000000) : VC Tryz.prog 38 [q] [] (ownV ⟨0, 0⟩ (ls.flatten.map encM)) [blkV 8 (ls.flatten.map encM)] := by
  refine xAG vf38 ?_ (Nat.le_of_ble_eq_true rfl) (by intro vs h; cases h)
  have hml : (ls.map xIG).length = ls.length := List.length_map ..
  have htf := xLx ls
  repeat first|refine zA ?_|refine zB ?_|refine zC ?_|refine zD ?_|refine zE ?_|refine zF ?_|refine zL ?_|refine zM ?_|refine zO ?_|refine zP ?_|refine zQ ?_|refine zT ?_|refine zW ?_|refine zX ?_|refine zY ?_|refine zZ ?_
  refine xAJ (fun (g : Nat × Nat) => [(0, q), (3, .int .i64 g.2), (9, q), (10, .int .i64 (ls.map xIG).length), (11, .int .i64 g.1)])
    (fun g => []) (fun g => ls.length - g.1)
    (fun g => g.1 ≤ ls.length ∧ g.2 + totM (ls.drop g.1) = totM ls) (0, 0) goes ⟨Nat.zero_le _, by simp⟩ ?_
  rintro ⟨i, n⟩ ⟨hi, hn⟩
  dsimp only at hi hn ⊢
  repeat first|refine zA ?_|refine zB ?_|refine zC ?_|refine zD ?_|refine zE ?_|refine zF ?_|refine zL ?_|refine zM ?_|refine zO ?_|refine zP ?_|refine zQ ?_|refine zT ?_|refine zW ?_|refine zX ?_|refine zY ?_|refine zZ ?_
  refine cnd (fun h => xAB ?_) (fun h => xAE ?_)
  · have hlt : i < ls.length := by have h' := of_decide_eq_true h; omega
    obtain ⟨l, hl⟩ : ∃ x, ls[i]? = some x := ⟨_, List.getElem?_eq_getElem hlt⟩
    have hle := gm (enc := xIG) (n := (i : Int)) hl (by omega)
    rw [xAj hl, xIS] at hn
    have hll : (l.map encM).length = l.length := List.length_map ..
    repeat first|refine zA ?_|refine zB ?_|refine zC ?_|refine zD ?_|refine zE ?_|refine zF ?_|refine zL ?_|refine zM ?_|refine zO ?_|refine zP ?_|refine zQ ?_|refine zT ?_|refine zW ?_|refine zX ?_|refine zY ?_|refine zZ ?_
    refine cndf (xAB ?_) rfl (decide_eq_false (by omega))
    repeat first|refine zA ?_|refine zB ?_|refine zC ?_|refine zD ?_|refine zE ?_|refine zF ?_|refine zL ?_|refine zM ?_|refine zO ?_|refine zP ?_|refine zQ ?_|refine zT ?_|refine zW ?_|refine zX ?_|refine zY ?_|refine zZ ?_
    exact agn (i + 1, n + l.length) ⟨by simp only; omega, by simp only; omega⟩ (goes (h1 := by
      refine ⟨rfl, ?_, rfl, rfl, rfl, trivial⟩
      exact congrArg (fun z => some (PV.int .i64 z)) (by simp only [hll]; omega)))
  have hge : i = ls.length := by have h' := of_decide_eq_false h; omega
  subst hge
  have hn2 : n = totM ls := by rw [List.drop_length] at hn; simpa [totM] using hn
  subst hn2
  clear hn h
  rcases Nat.eq_zero_or_pos (totM ls) with h0 | hpos
  · have hall : ∀ (m : List (List MsgL)), totM m = 0 → ∀ l ∈ m, l = [] := by
      intro m
      induction m with
      | nil => intro _ l hl; cases hl
      | cons x m ih =>
        intro h l hl
        rw [xIS] at h
        rcases List.mem_cons.1 hl with rfl | hl
        · exact List.length_eq_zero_iff.1 (by omega)
        · exact ih (by omega) l hl
    have hfl : ls.flatten = [] := List.length_eq_zero_iff.1 (by omega)
    rw [hfl, h0]
    repeat first|refine zA ?_|refine zB ?_|refine zC ?_|refine zD ?_|refine zE ?_|refine zF ?_|refine cv0 xM5 ?_|refine zL ?_|refine zM ?_|refine zO ?_|refine zP ?_|refine zQ ?_|refine zT ?_|refine zW ?_|refine zX ?_|refine zY ?_|refine zZ ?_
    refine xAJ (fun (g : Nat) => [(6, ownV ⟨1, 106512⟩ (([] : List MsgL).map encM)), (25, q), (26, .int .i64 (ls.map xIG).length), (27, .int .i64 g)])
      (fun g => [(⟨1, 106512⟩, blkV 8 (([] : List MsgL).map encM))]) (fun g => ls.length - g)
      (fun g => g ≤ ls.length) 0 ((Imp.nil (t := 6) (b := ⟨1, 106512⟩) (esz := 8) rfl rfl (by decide)).trans goes) (Nat.zero_le _) ?_
    intro i hi
    (try dsimp only)
    repeat first|refine zA ?_|refine zB ?_|refine zC ?_|refine zD ?_|refine zE ?_|refine zF ?_|refine zL ?_|refine zM ?_|refine zO ?_|refine zP ?_|refine zQ ?_|refine zT ?_|refine zW ?_|refine zX ?_|refine zY ?_|refine zZ ?_
    refine cnd (fun h => xAB ?_) (fun h => xAE ?_)
    · have hlt : i < ls.length := by have h' := of_decide_eq_true h; omega
      obtain ⟨l, hl⟩ : ∃ x, ls[i]? = some x := ⟨_, List.getElem?_eq_getElem hlt⟩
      have hle := gm (enc := xIG) (n := (i : Int)) hl (by omega)
      have hl0 := hall ls h0 l (List.mem_of_getElem? hl)
      subst hl0
      repeat first|refine zA ?_|refine zB ?_|refine zC ?_|refine zD ?_|refine zE ?_|refine zF ?_|refine o_v (vaps encM [] []) ?_|refine zL ?_|refine zM ?_|refine zO ?_|refine zP ?_|refine zQ ?_|refine zT ?_|refine zW ?_|refine zX ?_|refine zY ?_|refine zZ ?_
      exact agn (i + 1) (by omega) goes
    · repeat first|refine zA ?_|refine zB ?_|refine zC ?_|refine zD ?_|refine zE ?_|refine zF ?_|refine zL ?_|refine zM ?_|refine zO ?_|refine zP ?_|refine zQ ?_|refine zT ?_|refine zW ?_|refine zX ?_|refine zY ?_|refine zZ ?_
      exact xAC ⟨.inr rfl, oOwn rfl⟩
  · have hrep : List.replicate (totM ls) (encM xG1) = (List.replicate (totM ls) xG1).map encM := by rw [List.map_replicate]
    have hg := xOb hpos ht
    rw [hrep] at hg
    generalize totM ls = N at *
    have hcl : (blkV 8 ((List.replicate N xG1).map encM)).frz = false ∧ ∀ e ∈ (blkV 8 ((List.replicate N xG1).map encM)).els, ∀ c ∈ e, cS c = true := ⟨rfl, by intro e he; obtain ⟨a, _, rfl⟩ := List.mem_map.1 he; simp [cS, cN, clean]⟩
    repeat first|refine zA ?_|refine zB ?_|refine zC ?_|refine zD ?_|refine zE ?_|refine zF ?_|refine cv hg ?_|refine zL ?_|refine zM ?_|refine zO ?_|refine zP ?_|refine zQ ?_|refine zT ?_|refine zW ?_|refine zX ?_|refine zY ?_|refine zZ ?_
    refine xAJ (fun (g : Nat × List MsgL) => [(6, .own ⟨1, 73736⟩ N 0 g.2.length), (25, q), (26, .int .i64 (ls.map xIG).length), (27, .int .i64 g.1)])
      (fun g => [(⟨1, 73736⟩, blkV 8 ((g.2 ++ List.replicate (N - g.2.length) xG1).map encM))]) (fun g => ls.length - g.1)
      (fun g => g.1 ≤ ls.length ∧ g.2 ++ (ls.drop g.1).flatten = ls.flatten) (0, []) goes ⟨Nat.zero_le _, rfl⟩ ?_
    rintro ⟨i, o⟩ ⟨hi, hv⟩
    dsimp only at hi hv ⊢
    have hol := congrArg List.length hv
    rw [List.length_append, htf] at hol
    repeat first|refine zA ?_|refine zB ?_|refine zC ?_|refine zD ?_|refine zE ?_|refine zF ?_|refine zL ?_|refine zM ?_|refine zO ?_|refine zP ?_|refine zQ ?_|refine zT ?_|refine zW ?_|refine zX ?_|refine zY ?_|refine zZ ?_
    refine cnd (fun h => xAB ?_) (fun h => xAE ?_)
    · have hlt : i < ls.length := by have h' := of_decide_eq_true h; omega
      obtain ⟨l, hl⟩ : ∃ x, ls[i]? = some x := ⟨_, List.getElem?_eq_getElem hlt⟩
      have hle := gm (enc := xIG) (n := (i : Int)) hl (by omega)
      rw [xAj hl, List.flatten_cons] at hv hol
      rw [List.length_append] at hol
      have e1 : o ++ l ++ (List.replicate (N - o.length) xG1).drop l.length = (o ++ l) ++ List.replicate (N - (o ++ l).length) xG1 := by
        rw [List.drop_replicate, List.length_append]; congr 2; omega
      have hrl : (List.replicate (N - o.length) xG1).length = N - o.length := List.length_replicate ..
      have e2 : o.length + l.length = (o ++ l).length := List.length_append.symm
      repeat first|refine zA ?_|refine zB ?_|refine zC ?_|refine zD ?_|refine zE ?_|refine zF ?_|refine o_v (vapfE encM o l (List.replicate (N - o.length) xG1) e1 e2) ?_|refine zL ?_|refine zM ?_|refine zO ?_|refine zP ?_|refine zQ ?_|refine zT ?_|refine zW ?_|refine zX ?_|refine zY ?_|refine zZ ?_
      refine agn (i + 1, o ++ l) ⟨by simp only; omega, by rw [← hv]; simp⟩ goes
    · have hge : i = ls.length := by have h' := of_decide_eq_false h; omega
      subst hge
      rw [List.drop_length] at hv hol
      rw [List.flatten_nil, List.append_nil] at hv
      rw [List.flatten_nil, List.length_nil] at hol
      subst hv
      simp only [htf, Nat.sub_self, List.replicate_zero, List.append_nil]
      repeat first|refine zA ?_|refine zB ?_|refine zC ?_|refine zD ?_|refine zE ?_|refine zF ?_|refine zL ?_|refine zM ?_|refine zO ?_|refine zP ?_|refine zQ ?_|refine zT ?_|refine zW ?_|refine zX ?_|refine zY ?_|refine zZ ?_
      exact xAC ⟨.inr rfl, oOwn rfl⟩
end Go.Proofs
open Go.V Go.Pu
open Go.V renaming xA4 → zA, nl → zB, xAQ → zC, rg → zD, xAK → zE, bq → zF, xBD → zL, xBE → zM, xBs → zN, xBt → zX, xB6 → zY, xDW → zZ, xAl → za, xAm → zb, xFT → zc, xBL → ze, xA7 → zg, xKU → zq
set_option linter.unusedVariables false
set_option linter.unusedSimpArgs false
set_option maxRecDepth 20000
namespace Go.Proofs
def vc30 : VCode :=
 (.seq
 (.region 0 false [
 .e 3 (.box (.t 1)) 0,
 .e 4 (.copy (.c (.bool false))) 8])
 (.seq
 (.region 1 true [
 .e 5 (.load true 8 (.t 3)) 8192,
 .f 6 (.call (.c (.fn 57 [])) [(.t 5)]) 8200 [0],
 .e 7 (.copy (.t 0)) 8208,
 .f 8 (.nilc (.t 7)) 8216 [2],
 .f 9 (.faddr 0 (.t 8)) 8224 [3, 2],
 .f 10 (.load false 1 (.t 9)) 8232 [4, 3, 2],
 .f 11 (.call (.c (.fn 56 [])) [(.t 6), (.t 10)]) 8240 [1, 0, 5, 4, 3, 2],
 .f 12 (.len (.t 11)) 8248 [6, 1, 0, 5, 4, 3, 2],
 .f 13 (.bin .eql (.t 12) (.c (.int .i64 0))) 8256 [7, 6, 1, 0, 5, 4, 3, 2],
 .f 4 (.copy (.t 13)) 8264 [8, 7, 6, 1, 0, 5, 4, 3, 2]])
 .ret))
theorem vf30 : VF Tryz.prog 30 = some (14, vc30, [.tmp 4]) := by kernel_rfl
def vc31 : VCode :=
 (.seq
 (.region 0 false [
 .e 3 (.box (.t 1)) 0])
 (.region 1 true [
 .e 4 (.copy (.t 0)) 8192,
 .e 5 (.copy (.t 0)) 8200,
 .f 6 (.nilc (.t 5)) 8208 [1],
 .f 7 (.faddr 0 (.t 6)) 8216 [2, 1],
 .f 8 (.load false 1 (.t 7)) 8224 [3, 2, 1],
 .e 9 (.load true 8 (.t 3)) 8232,
 .f 10 (.call (.c (.fn 59 [])) [(.t 9)]) 8240 [5],
 .f 11 (.bslice 1 [.nils] 2 [(0, (.t 8)), (1, (.t 10))]) 8248 [4, 3, 2, 1, 6, 5],
 .f 12 (.call (.c (.fn 58 [])) [(.t 11)]) 8256 [7, 4, 3, 2, 1, 6, 5],
 .e 13 (.load true 8 (.t 3)) 8264,
 .f 14 (.call (.c (.fn 60 [])) [(.t 13)]) 8272 [9, 8, 7, 4, 3, 2, 1, 6, 5],
 .f 15 (.call (.c (.fn 56 [])) [(.t 12), (.t 14)]) 8280 [8, 7, 4, 3, 2, 1, 6, 5, 10, 9],
 .f 16 (.nilc (.t 4)) 8288 [0, 1, 2, 3, 4, 5, 6, 7, 8, 9, 10, 11],
 .f 17 (.faddr 0 (.t 16)) 8296 [12, 0, 1, 2, 3, 4, 5, 6, 7, 8, 9, 10, 11],
 .h (.store 1 (.t 17) (.t 15)) 8304 [13, 12, 0, 1, 2, 3, 4, 5, 6, 7, 8, 9, 10, 11]]))
theorem vf31 : VF Tryz.prog 31 = some (18, vc31, []) := by kernel_rfl
abbrev bxD (d : List SpanL) : Blk := ⟨true, false, 1, [[.sh false (d.map encS)]]⟩
theorem xO7 {q p : PV} {l m : List SpanL} (hq : Sl q (l.map encS)) (hp : Sl p (m.map encS)) (hl : l.length ≤ 200) (hm : m.length ≤ 200) : VC Tryz.prog 56 [q, p] [] (.sh false ((xBM l m).map encS)) [] := xB3 (xOC hq hp hl hm)
theorem xNK {m : MsgL} (hm : MsgSz m) {d : List SpanL} (hd : d.length ≤ 200) : VC Tryz.prog 30 [.ptr ⟨0, 0⟩ 1 0 0, .agg (encM m)] [bxD d] (.bool (covL m d)) [bxD d] := by
  have hw := xIM hm
  have hmi := xO7 (q := .sh false ((xAh m).map encS)) (p := .sh false (d.map encS)) Sl.sh Sl.sh (by have := xDo m; omega) hd
  have e : covL m d = ((((xBM (xAh m) d).map encS).length : Int) == 0) := by
    unfold covL
    rw [List.length_map, Bool.eq_iff_iff]
    simp
  rw [e]
  refine xAG vf30 ?_ (Nat.le_of_ble_eq_true rfl) (by intro vs h; cases h)
  repeat first|refine zA ?_|refine zB ?_|refine zC ?_|refine zD ?_|refine zE ?_|refine zF ?_|refine cf hw ?_|refine cf hmi ?_|refine zL ?_|refine zM ?_|refine zN ?_|refine zX ?_|refine zY ?_|refine zZ ?_|refine za ?_|refine zb ?_|refine zc ?_|refine zq ?_
  refine xAC ⟨.inr rfl, ?_⟩
  exact oG []
theorem xPp {m : MsgL} (hm : MsgSz m) {d : List SpanL} (hd : d.length ≤ 190) : VC Tryz.prog 31 [.ptr ⟨0, 0⟩ 1 0 0, .agg (encM m)] [bxD d] (.tup []) [bxD (nxtL m d)] := by
  have hk := xOU hm
  have hr := xN2 hm
  have hkl := xGP m
  have hrl := xF0 m
  have hc := xB3 (xLe (q := .sh false ([d, xA5 m].map xIF)) (ls := [d, xA5 m]) Sl.sh (by simp) (by simp [totS]; omega))
  have e : ([d, xA5 m].flatten : List SpanL) = d ++ xA5 m := by simp
  rw [e] at hc
  have hmi := xO7 (q := .sh false ((d ++ xA5 m).map encS)) (p := .sh false ((xCU m).map encS)) Sl.sh Sl.sh (by rw [List.length_append]; omega) (by omega)
  refine xAG vf31 ?_ (Nat.le_of_ble_eq_true rfl) (by intro vs h; cases h; simp)
  repeat first|refine zA ?_|refine zB ?_|refine zC ?_|refine zD ?_|refine zE ?_|refine zF ?_|refine cf hk ?_|refine cf hr ?_|refine cf hc ?_|refine cf hmi ?_|refine zL ?_|refine zM ?_|refine zN ?_|refine za ?_|refine zb ?_|refine zc ?_|refine ze ?_|refine zg ?_|refine zq ?_
  refine ⟨.inl rfl, ?_⟩
  exact oG []
end Go.Proofs
open Go.V Go.Pu
open Go.V renaming xA4 → zA, nl → zB, xAQ → zC, rg → zD, xAK → zE, bq → zF, xA2 → zO, xAo → zP, xAn → zQ, xCp → zT, xEX → zU, xCo → zW, xBt → zX, xB6 → zY, xDW → zZ, xAl → za, xAm → zb, xFT → zc, xA7 → zg, o_fn → zs
set_option linter.unusedVariables false
set_option linter.unusedSimpArgs false
set_option maxRecDepth 20000
namespace Go.Proofs
def vc33 : VCode :=
 (.seq
 (.region 0 false [
 .e 4 (.copy (.t 0)) 0,
 .e 5 (.len (.t 4)) 8,
 .e 6 (.bin .sub (.t 5) (.c (.int .i64 1))) 16,
 .e 2 (.copy (.c (.int .i64 0))) 24,
 .e 3 (.copy (.t 6)) 32])
 (.block 0
 (.loop
 (.seq
 (.seq
 (.region 1 false [
 .e 7 (.copy (.t 2)) 8192,
 .e 8 (.copy (.t 3)) 8200,
 .e 9 (.bin .lss (.t 7) (.t 8)) 8208])
 (.cond (.t 9)
 .skip
 (.exit 0)))
 (.seq
 (.block 1
 (.region 3 true [
 .e 14 (.copy (.t 0)) 24576,
 .e 15 (.copy (.t 2)) 24584,
 .e 16 (.copy (.t 0)) 24592,
 .e 17 (.copy (.t 3)) 24600,
 .e 18 (.copy (.t 0)) 24608,
 .e 19 (.copy (.t 3)) 24616,
 .f 20 (.iaddr 8 (.t 18) (.t 19)) 24624 [4, 5],
 .f 21 (.load true 8 (.t 20)) 24632 [6, 4, 5],
 .e 22 (.copy (.t 0)) 24640,
 .e 23 (.copy (.t 2)) 24648,
 .f 24 (.iaddr 8 (.t 22) (.t 23)) 24656 [8, 9],
 .f 25 (.load true 8 (.t 24)) 24664 [10, 8, 9],
 .f 26 (.iaddr 8 (.t 14) (.t 15)) 24672 [0, 1, 4, 5, 6, 7, 11, 10, 8, 9],
 .h (.store 8 (.t 26) (.t 21)) 24680 [12, 0, 1, 4, 5, 6, 7, 11, 10, 8, 9],
 .f 27 (.iaddr 8 (.t 16) (.t 17)) 24688 [2, 3, 0, 1, 4, 5, 6, 7, 8, 9, 10, 11, 12, 13],
 .h (.store 8 (.t 27) (.t 25)) 24696 [14, 2, 3, 0, 1, 4, 5, 6, 7, 8, 9, 10, 11, 12, 13]]))
 (.region 2 false [
 .e 10 (.copy (.t 2)) 16384,
 .e 11 (.bin .add (.t 10) (.c (.int .i64 1))) 16392,
 .e 12 (.copy (.t 3)) 16400,
 .e 13 (.bin .sub (.t 12) (.c (.int .i64 1))) 16408,
 .e 2 (.copy (.t 11)) 16416,
 .e 3 (.copy (.t 13)) 16424]))))))
theorem vf33 : VF Tryz.prog 33 = some (28, vc33, []) := by kernel_rfl
def vc32 : VCode :=
 (.seq
 (.region 0 false [
 .e 1 (.box (.t 0)) 0,
 .e 2 (.copy (.c .nilf)) 8])
 (.seq
 (.region 1 false [
 .e 3 (.fn 61 [(.t 1)]) 8192,
 .e 2 (.copy (.t 3)) 8200])
 .ret))
theorem vf32 : VF Tryz.prog 32 = some (4, vc32, [.tmp 2]) := by kernel_rfl
theorem xNB {zs : List MsgL} {i : Nat} {x : MsgL} {k : Nat} (h : zs[i]? = some x) (hk : k = i) : (blkV 8 (zs.map encM)).els[k]? = some (encM x) := by
  show (zs.map encM)[k]? = _
  rw [hk, List.getElem?_map, h]; rfl
def RevP (xs ys : List MsgL) (i : Nat) : Prop := ys.length = xs.length ∧ ∀ k, ys[k]? = if k < i ∨ xs.length ≤ k + i then xs.reverse[k]? else xs[k]?
theorem xN0 {xs ys : List MsgL} {i : Nat} (h : RevP xs ys i) (hi : xs.length ≤ 2 * i + 1) : ys = xs.reverse := by
  apply List.ext_getElem?
  intro k
  rw [h.2]
  split
  · rfl
  · rename_i hk
    have hk' : k = i ∧ xs.length = 2 * i + 1 := by omega
    rw [List.getElem?_reverse (by omega)]
    congr 1
    omega
theorem xNz {xs ys : List MsgL} {i : Nat} {x y : MsgL} (h : RevP xs ys i) (hi : 2 * i + 1 < xs.length) (hx : ys[i]? = some x) (hy : ys[xs.length - 1 - i]? = some y) : RevP xs ((ys.set i y).set (xs.length - 1 - i) x) (i + 1) := by
  have hl := h.1
  refine ⟨by simpa using hl, fun k => ?_⟩
  have hx2 := h.2 i
  rw [hx, if_neg (by omega)] at hx2
  have hy2 := h.2 (xs.length - 1 - i)
  rw [hy, if_neg (by omega)] at hy2
  rw [List.getElem?_set, List.length_set, List.getElem?_set]
  by_cases h1 : xs.length - 1 - i = k
  · rw [if_pos h1, if_pos (by omega), if_pos (by omega), hx2, List.getElem?_reverse (by omega)]
    congr 1
    omega
  · rw [if_neg h1]
    by_cases h2 : i = k
    · rw [if_pos h2, if_pos (by omega), if_pos (by omega), hy2, List.getElem?_reverse (by omega)]
      congr 1
      omega
    · rw [if_neg h2, h.2 k]
      by_cases h3 : k < i ∨ xs.length ≤ k + i
      · rw [if_pos h3, if_pos (by omega)]
      · rw [if_neg h3, if_neg (by omega)]
set_option maxHeartbeats 2000000 in
theorem rev_vc {xs : List MsgL} {N : Nat} (hN : N = xs.length) (hl : xs.length ≤ 60000) : VC Tryz.prog 33 [.own ⟨0, 0⟩ N 0 N] [blkV 8 (xs.map encM)] (.tup []) [blkV 8 (xs.reverse.map encM)] := by
  refine xAG vf33 ?_ (Nat.le_of_ble_eq_true rfl) (by intro vs h; cases h; simp)
  repeat first|refine zA ?_|refine zB ?_|refine zC ?_|refine zD ?_|refine zE ?_|refine zF ?_|refine zO ?_|refine zP ?_|refine zQ ?_|refine zT ?_|refine zU ?_|refine zW ?_|refine zX ?_|refine zY ?_|refine zZ ?_|refine za ?_|refine zb ?_|refine zg ?_
  refine xAJ (fun (g : Nat × List MsgL) => [(0, .own ⟨0, 0⟩ N 0 N), (2, .int .i64 g.1), (3, .int .i64 ((N : Int) - 1 - (g.1 : Int)))])
    (fun g => [(⟨0, 0⟩, blkV 8 (g.2.map encM))]) (fun g => xs.length - g.1) (fun g => 2 * g.1 ≤ xs.length + 1 ∧ RevP xs g.2 g.1) (0, xs)
    (goes (h1 := by refine ⟨rfl, rfl, ?_, trivial⟩; exact congrArg (fun z => some (PV.int .i64 z)) (by simp))) ⟨by simp only; omega, rfl, fun k => ?_⟩ ?_
  · simp only [Nat.not_lt_zero, Nat.add_zero, false_or]
    split
    · rename_i hk
      rw [List.getElem?_eq_none (by omega), List.getElem?_eq_none (by simp; omega)]
    · rfl
  rintro ⟨i, ys⟩ ⟨hi, hr⟩
  dsimp only at hi hr ⊢
  have hyl := hr.1
  by_cases hA : 2 * i + 1 < xs.length
  · have hd : decide ((i : Int) < (N : Int) - 1 - (i : Int)) = true := decide_eq_true (by omega)
    obtain ⟨x, hx⟩ : ∃ x, ys[i]? = some x := ⟨_, List.getElem?_eq_getElem (by omega)⟩
    obtain ⟨y, hy⟩ : ∃ y, ys[xs.length - 1 - i]? = some y := ⟨_, List.getElem?_eq_getElem (by omega)⟩
    have hx' := xNB (k := 0 + (i : Int).toNat) hx (by omega)
    have hy' := xNB (k := 0 + ((N : Int) - 1 - (i : Int)).toNat) hy (by omega)
    have hk1 : 0 + (i : Int).toNat = i := by omega
    have hk2 : 0 + ((N : Int) - 1 - (i : Int)).toNat = xs.length - 1 - i := by omega
    have hst := xNz hr hA hx hy
    repeat first|refine zA ?_|refine zB ?_|refine zC ?_|refine zD ?_|refine zE ?_|refine zF ?_|refine zO ?_|refine zP ?_|refine zQ ?_|refine zT ?_|refine zU ?_|refine zW ?_|refine zX ?_|refine zY ?_|refine zZ ?_|refine za ?_|refine zb ?_|refine zg ?_
    refine cndt (xAB ?_)
    refine xAQ (xAK (rg ?_))
    repeat first|refine zA ?_|refine xAD ?_|refine o_v (vst encM y) ?_|refine o_v (vst encM x) ?_|refine zO ?_|refine zP ?_|refine zQ ?_|refine zT ?_|refine zU ?_|refine zW ?_|refine zX ?_|refine zY ?_|refine zZ ?_|refine za ?_|refine zb ?_|refine zg ?_
    refine nl ?_
    rw [hk1, hk2]
    generalize (ys.set i y).set (xs.length - 1 - i) x = zs at hst
    repeat first|refine zA ?_|refine zB ?_|refine zC ?_|refine zD ?_|refine zE ?_|refine zF ?_|refine zO ?_|refine zP ?_|refine zQ ?_|refine zT ?_|refine zU ?_|refine zW ?_|refine zX ?_|refine zY ?_|refine zZ ?_|refine za ?_|refine zb ?_|refine zg ?_
    exact agn (Q := fun _ _ => True) (i + 1, zs) ⟨by simp only; omega, hst⟩ (xBd (h1 := by refine ⟨rfl, rfl, ?_, trivial⟩; exact congrArg (fun z => some (PV.int .i64 z)) (by simp only; omega)))
  · have hd : decide ((i : Int) < (N : Int) - 1 - (i : Int)) = false := decide_eq_false (by omega)
    have := xN0 hr (by omega)
    subst this
    repeat first|refine zA ?_|refine zB ?_|refine zC ?_|refine zD ?_|refine zE ?_|refine zF ?_|refine zO ?_|refine zP ?_|refine zQ ?_|refine zT ?_|refine zU ?_|refine zW ?_|refine zX ?_|refine zY ?_|refine zZ ?_|refine za ?_|refine zb ?_|refine zg ?_
    refine cndf (xAE ?_)
    exact ⟨.inl rfl, oL1 rfl⟩
theorem xOo {l : List MsgL} : VC Tryz.prog 32 [.sh false (l.map encM)] [] (.fn 61 [.ptr ⟨0, 0⟩ 1 0 0]) [⟨true, false, 1, [[.sh false (l.map encM)]]⟩] := by
  refine xAG vf32 ?_ (Nat.le_of_ble_eq_true rfl) (by intro vs h; cases h)
  repeat first|refine zA ?_|refine zB ?_|refine zC ?_|refine zD ?_|refine zE ?_|refine zF ?_|refine zc ?_|refine zs ?_
  refine xAC ⟨.inr rfl, ?_⟩
  exact oG [⟨1, 0⟩] (v' := .fn 61 [.ptr ⟨0, 0⟩ 1 0 0]) (hout' := [⟨true, false, 1, [[.sh false (l.map encM)]]⟩])
end Go.Proofs
open Go.V Go.Pu
open Go.V renaming xA4 → zA, nl → zB, xAQ → zC, rg → zD, xAK → zE, bq → zF, xBD → zL, xBE → zM, xBs → zN, xA2 → zO, xAo → zP, xAn → zQ, xEX → zU, xBt → zX, xB6 → zY, xDW → zZ, xAl → za, xAm → zb, xFT → zc, xCF → zd, xBL → ze, xA7 → zg, xG4 → zi, xDY → zl, xKU → zq, o_fn → zs
set_option linter.unusedVariables false
set_option linter.unusedSimpArgs false
set_option maxRecDepth 20000
namespace Go.Proofs
def vc12 : VCode :=
 (.seq
 (.region 0 false [
 .e 4 (.copy (.c .nils)) 0,
 .e 5 (.copy (.c .nils)) 8])
 (.seq
 (.region 1 false [
 .e 12 (.copy (.t 1)) 8192,
 .e 13 (.call (.c (.fn 29 [])) [(.t 12)]) 8200,
 .e 14 (.build [.nils] [(0, 1, (.t 13))]) 8208,
 .e 15 (.box (.t 14)) 8216,
 .e 6 (.copy (.t 15)) 8224])
 (.seq
 (.region 2 false [
 .e 16 (.copy (.t 6)) 16384,
 .e 17 (.fn 1000030 [(.t 16)]) 16392,
 .e 18 (.copy (.t 6)) 16400,
 .e 19 (.fn 1000031 [(.t 18)]) 16408,
 .e 7 (.alloc [.nilf]) 16416,
 .e 8 (.alloc [.nilf]) 16424,
 .h (.store 1 (.t 7) (.t 17)) 16432 [],
 .h (.store 1 (.t 8) (.t 19)) 16440 []])
 (.seq
 (.region 3 false [
 .e 9 (.alloc [.nils]) 24576])
 (.seq
 (.seq
 (.region 4 false [
 .e 20 (.copy (.t 0)) 32768,
 .e 21 (.call (.c (.fn 32 [])) [(.t 20)]) 32776])
 (.block 0
 (.range (.t 21) [22, 23]
 (.region 5 false [
 .e 11 (.alloc [(.int .i64 0), (.str []), (.str []), (.str []), (.str []), (.str []), (.str []), (.int .i64 0)]) 40960,
 .h (.store 8 (.t 11) (.t 23)) 40968 []])
 (.block 1
 (.seq
 (.region 6 false [
 .e 24 (.load false 1 (.t 7)) 49152,
 .e 25 (.load true 8 (.t 11)) 49160,
 .e 26 (.call (.t 24) [(.t 25)]) 49168,
 .e 27 (.not (.t 26)) 49176])
 (.cond (.t 27)
 (.seq
 (.region 7 false [
 .e 28 (.load false 1 (.t 9)) 57344,
 .e 29 (.load true 8 (.t 11)) 57352,
 .e 30 (.bslice 8 [(.int .i64 0), (.str []), (.str []), (.str []), (.str []), (.str []), (.str []), (.int .i64 0)] 1 [(0, (.t 29))]) 57360,
 .e 31 (.append 8 112 [(.int .i64 0), (.str []), (.str []), (.str []), (.str []), (.str []), (.str []), (.int .i64 0)] (.t 28) (.t 30)) 57368,
 .h (.store 1 (.t 9) (.t 31)) 57376 []])
 (.region 8 false [
 .e 32 (.load false 1 (.t 8)) 65536,
 .e 33 (.load true 8 (.t 11)) 65544,
 .e 34 (.call (.t 32) [(.t 33)]) 65552]))
 .skip))))))
 (.seq
 (.region 9 false [
 .e 35 (.load false 1 (.t 9)) 73728,
 .e 36 (.call (.c (.fn 33 [])) [(.t 35)]) 73736])
 (.seq
 (.region 10 true [
 .e 37 (.load false 1 (.t 9)) 81920,
 .e 38 (.copy (.t 6)) 81928,
 .f 39 (.nilc (.t 38)) 81936 [1],
 .f 40 (.faddr 0 (.t 39)) 81944 [2, 1],
 .f 41 (.load false 1 (.t 40)) 81952 [3, 2, 1],
 .f 4 (.copy (.t 37)) 81960 [0],
 .f 5 (.copy (.t 41)) 81968 [4, 3, 2, 1, 5, 0]])
 .ret)))))))
theorem vf12 : VF Tryz.prog 12 = some (42, vc12, [.tmp 4, .tmp 5]) := by kernel_rfl
def vc61 : VCode :=
 (.seq
 (.region 0 false [
 .e 4 (.load false 1 (.t 1)) 0,
 .e 5 (.len (.t 4)) 8,
 .e 6 (.bin .sub (.t 5) (.c (.int .i64 1))) 16,
 .e 3 (.copy (.t 6)) 24])
 (.block 0
 (.loop
 (.seq
 (.seq
 (.region 1 false [
 .e 7 (.copy (.t 3)) 8192,
 .e 8 (.bin .geq (.t 7) (.c (.int .i64 0))) 8200])
 (.cond (.t 8)
 .skip
 (.exit 0)))
 (.seq
 (.block 1
 (.seq
 (.region 3 false [
 .e 11 (.copy (.t 0)) 24576,
 .e 12 (.copy (.t 3)) 24584,
 .e 13 (.load false 1 (.t 1)) 24592,
 .e 14 (.copy (.t 3)) 24600,
 .e 15 (.iaddr 8 (.t 13) (.t 14)) 24608,
 .e 16 (.load true 8 (.t 15)) 24616,
 .e 17 (.call (.t 11) [(.t 12), (.t 16)]) 24624,
 .e 18 (.not (.t 17)) 24632])
 (.cond (.t 18)
 .ret
 .skip)))
 (.region 2 false [
 .e 9 (.copy (.t 3)) 16384,
 .e 10 (.bin .sub (.t 9) (.c (.int .i64 1))) 16392,
 .e 3 (.copy (.t 10)) 16400]))))))
theorem vf61 : VF Tryz.prog 61 = some (19, vc61, []) := by kernel_rfl
abbrev LT0 : Tmps := [(6, .ptr ⟨0, 1000⟩ 1 0 0), (7, .ptr ⟨0, 1001⟩ 1 0 0), (8, .ptr ⟨0, 1002⟩ 1 0 0), (9, .ptr ⟨0, 1003⟩ 1 0 0), (21, .fn 61 [.ptr ⟨0, 1004⟩ 1 0 0])]
abbrev LH (l : List MsgL) (d : List SpanL) (o : List MsgL) : Heap := [(⟨0, 1000⟩, bxD d), (⟨0, 1001⟩, ⟨true, false, 1, [[.fn 1000030 [.ptr ⟨0, 1000⟩ 1 0 0]]]⟩), (⟨0, 1002⟩, ⟨true, false, 1, [[.fn 1000031 [.ptr ⟨0, 1000⟩ 1 0 0]]]⟩),
  (⟨0, 1003⟩, ⟨true, false, 1, [[ownV ⟨1, 7⟩ (o.map encM)]]⟩), (⟨1, 7⟩, blkV 8 (o.map encM)), (⟨0, 1004⟩, ⟨true, false, 1, [[.sh false (l.map encM)]]⟩)]
theorem l_live {hf : HF} {a : Bid} {o : List MsgL} {d : List SpanL} (ha : hf a = some (blkV 8 (o.map encM))) : xBI hf [] [ownV a (o.map encM), .sh false (d.map encS)] = some ([a], [.sh false (o.map encM), .sh false (d.map encS)]) := by
  have h1 : xB8 hf [] (ownV a (o.map encM)) = some ([a], .sh false (o.map encM)) := xAX ha rfl
  have h2 : xB8 hf [] (.sh false (d.map encS)) = some ([], .sh false (d.map encS)) := xAA rfl
  rw [xBI, xBI, h1, h2]
  rfl
theorem xI4 {l : List MsgL} {i : Nat} {m : MsgL} (h : l[i]? = some m) : (l.take (i + 1)).reverse = m :: (l.take i).reverse := by
  rw [List.take_add_one, h]
  simp
set_option maxHeartbeats 8000000 in
theorem xJs {l : List MsgL} {q : PV} {dead : List SpanL} (hq : Sl q (dead.map encS)) (hl : l.length ≤ 40) (hm : ∀ m ∈ l, MsgSz m) (hd : dead.length ≤ 50) :
    VC Tryz.prog 12 [.sh false (l.map encM), q] [] (.tup [.sh false ((xBm l dead).1.map encM), .sh false ((xBm l dead).2.map encS)]) [] := by
  have hno := xB3 (xJo (q := q) (xs := dead) hq (by omega))
  have hnl := xB5 dead
  have hcl := hq.closed
  have hml : (l.map encM).length = l.length := List.length_map _
  refine xLs (hout := [blkV 8 ((xBm l dead).1.map encM)]) (vs := [ownV ⟨0, 0⟩ ((xBm l dead).1.map encM), .sh false ((xBm l dead).2.map encS)]) ?_ (l_live rfl) (by simp) (by simp)
  refine xAG vf12 ?_ (Nat.le_of_ble_eq_true rfl) (by intro vs h; cases h; simp)
  --fns 12 61
  refine xAQ (rg ?_)
  repeat first|refine zA ?_|refine zL ?_|refine zM ?_|refine zN ?_|refine zO ?_|refine zP ?_|refine zQ ?_|refine zU ?_|refine zX ?_|refine zY ?_|refine zZ ?_|refine za ?_|refine zb ?_|refine zc ?_|refine zd ?_|refine ze ?_|refine zg ?_|refine zi ?_|refine zl ?_|refine zq ?_|refine zs ?_
  refine nl ?_
  refine xAQ (rg ?_)
  repeat first|refine zA ?_|refine cf hno ?_|refine zL ?_|refine zM ?_|refine zN ?_|refine zO ?_|refine zP ?_|refine zQ ?_|refine zU ?_|refine zX ?_|refine zY ?_|refine zZ ?_|refine za ?_|refine zb ?_|refine zc ?_|refine zd ?_|refine ze ?_|refine zg ?_|refine zi ?_|refine zl ?_|refine zq ?_|refine zs ?_
  refine nl ?_
  refine xAQ (rg ?_)
  repeat first|refine zA ?_|refine zL ?_|refine zM ?_|refine zN ?_|refine zO ?_|refine zP ?_|refine zQ ?_|refine zU ?_|refine zX ?_|refine zY ?_|refine zZ ?_|refine za ?_|refine zb ?_|refine zc ?_|refine zd ?_|refine ze ?_|refine zg ?_|refine zi ?_|refine zl ?_|refine zq ?_|refine zs ?_
  refine nl ?_
  refine xAQ (rg ?_)
  repeat first|refine zA ?_|refine zL ?_|refine zM ?_|refine zN ?_|refine zO ?_|refine zP ?_|refine zQ ?_|refine zU ?_|refine zX ?_|refine zY ?_|refine zZ ?_|refine za ?_|refine zb ?_|refine zc ?_|refine zd ?_|refine ze ?_|refine zg ?_|refine zi ?_|refine zl ?_|refine zq ?_|refine zs ?_
  refine nl ?_
  refine xCB (lvl := 1) (fun _ => LT0) (fun (_ : Unit) => LH l (xBm l dead).2 ((xBW l.reverse (xAM dead)))) (fun _ => True) ?_ ?_
  · repeat first|refine zA ?_|refine zB ?_|refine zC ?_|refine zD ?_|refine zE ?_|refine zF ?_|refine cf (xOo (l := l)) ?_|refine zL ?_|refine zM ?_|refine zN ?_|refine zO ?_|refine zP ?_|refine zQ ?_|refine zU ?_|refine zX ?_|refine zY ?_|refine zZ ?_|refine za ?_|refine zb ?_|refine zc ?_|refine zd ?_|refine ze ?_|refine zg ?_|refine zi ?_|refine zl ?_|refine zq ?_|refine zs ?_
    refine rng (f := 61) (lvlI := 2) (T := LT0) (H := LH l (xAM dead) [])
      ((((((Imp.nilH (b := ⟨1, 7⟩) (b1 := ⟨1, 24576⟩) (esz := 8) rfl rfl (by decide)).trans (Imp.ren' (b := ⟨1, 8216⟩) (c := ⟨0, 1000⟩) (by decide) (.inr rfl))).trans (Imp.ren' (b := ⟨1, 16416⟩) (c := ⟨0, 1001⟩) (by decide) (.inr rfl))).trans
        (Imp.ren' (b := ⟨1, 16424⟩) (c := ⟨0, 1002⟩) (by decide) (.inr rfl))).trans (Imp.ren' (b := ⟨1, 24576⟩) (c := ⟨0, 1003⟩) (by decide) (.inr rfl))).trans (Imp.ren' (b := ⟨1, 32776⟩) (c := ⟨0, 1004⟩) (by decide) (.inr rfl)) |>.trans xBd) vf61 ?_
    intro y
    refine xK4 (xLh ?_)
    repeat first|refine zA ?_|refine zB ?_|refine zC ?_|refine zD ?_|refine zE ?_|refine zF ?_|refine zL ?_|refine zM ?_|refine zN ?_|refine zO ?_|refine zP ?_|refine zQ ?_|refine zU ?_|refine zX ?_|refine zY ?_|refine zZ ?_|refine za ?_|refine zb ?_|refine zc ?_|refine zd ?_|refine ze ?_|refine zg ?_|refine zi ?_|refine zl ?_|refine zq ?_|refine zs ?_
    refine xK5 ?_
    refine xOm (fun (g : Nat × List SpanL × List MsgL) => [(0, .yld y), (1, .ptr ⟨0, 1004⟩ 1 0 0), (3, .int .i64 ((g.1 : Int) - 1))]) (fun g => LH l g.2.1 g.2.2) (fun g => g.1)
      (fun g => g.1 ≤ l.length ∧ g.2.2 ++ xBW (l.take g.1).reverse g.2.1 = xBW l.reverse (xAM dead) ∧ xFV (l.take g.1).reverse g.2.1 = (xBm l dead).2 ∧ g.2.1.length + 3 * g.1 ≤ 170 ∧ g.2.2.length + g.1 ≤ 40)
      (l.length, xAM dead, []) (xBd (h1 := by refine ⟨rfl, rfl, ?_, trivial⟩; exact congrArg (fun z => some (PV.int .i64 z)) (by simp))) ⟨Nat.le_refl _, by simp only [List.take_length, List.nil_append], by simp only [List.take_length]; rfl, by simp only; omega, by simp only [List.length_nil]; omega⟩ ?_
    rintro ⟨i, d, o⟩ ⟨hi, hv, hdd, hdl, hol⟩
    dsimp only at hi hv hdd hdl hol ⊢
    refine xK4 (xLh ?_)
    repeat first|refine zA ?_|refine zB ?_|refine zC ?_|refine zD ?_|refine zE ?_|refine zF ?_|refine zL ?_|refine zM ?_|refine zN ?_|refine zO ?_|refine zP ?_|refine zQ ?_|refine zU ?_|refine zX ?_|refine zY ?_|refine zZ ?_|refine za ?_|refine zb ?_|refine zc ?_|refine zd ?_|refine ze ?_|refine zg ?_|refine zi ?_|refine zl ?_|refine zq ?_|refine zs ?_
    refine cnd (fun h => xAB ?_) (fun h => xAE ?_)
    · obtain ⟨j, rfl⟩ : ∃ j, i = j + 1 := ⟨i - 1, by have h' := of_decide_eq_true h; omega⟩
      obtain ⟨m, hx⟩ : ∃ m, l[j]? = some m := ⟨_, List.getElem?_eq_getElem (by omega)⟩
      have hxe := gm (enc := encM) (n := ((j + 1 : Nat) : Int) - 1) hx (by omega)
      have hlt2 : ((j + 1 : Nat) : Int) - 1 < ((l.map encM).length : Nat) := by omega
      have hge2 : 0 ≤ ((j + 1 : Nat) : Int) - 1 := by omega
      have hmz := hm m (List.mem_of_getElem? hx)
      rw [xI4 hx] at hv hdd
      refine xK4 (xK5 (xK4 (xNR (xNl 6 ?_))))
      repeat first|refine zA ?_|refine zB ?_|refine zC ?_|refine zD ?_|refine zE ?_|refine zF ?_|refine zL ?_|refine zM ?_|refine zN ?_|refine zO ?_|refine zP ?_|refine zQ ?_|refine zU ?_|refine zX ?_|refine zY ?_|refine zZ ?_|refine za ?_|refine zb ?_|refine zc ?_|refine zd ?_|refine ze ?_|refine zg ?_|refine zi ?_|refine zl ?_|refine zq ?_|refine zs ?_
      refine yl (T := [(0, .yld y), (1, .ptr ⟨0, 1004⟩ 1 0 0), (3, .int .i64 (((j + 1 : Nat) : Int) - 1)), (11, .yld y), (12, .int .i64 (((j + 1 : Nat) : Int) - 1)), (16, .agg (encM m))]) (H := LH l d o) 3 xBd ?_
      repeat first|refine zA ?_|refine zB ?_|refine zC ?_|refine zD ?_|refine zE ?_|refine zF ?_|refine zL ?_|refine zM ?_|refine zN ?_|refine zO ?_|refine zP ?_|refine zQ ?_|refine zU ?_|refine zX ?_|refine zY ?_|refine zZ ?_|refine za ?_|refine zb ?_|refine zc ?_|refine zd ?_|refine ze ?_|refine zg ?_|refine zi ?_|refine zl ?_|refine zq ?_|refine zs ?_
      refine ⟨rfl, ?_⟩
      have hco := xNK hmz (d := d) (by omega)
      have hpa := xPp hmz (d := d) (by omega)
      have hnl := xJl m d
      rw [xBW] at hv
      rw [xFV] at hdd
      cases hc : covL m d with
      | true =>
        rw [hc] at hco
        rw [if_pos hc] at hv hdd
        repeat first|refine zA ?_|refine zB ?_|refine zC ?_|refine zD ?_|refine zE ?_|refine zF ?_|refine cl (lent := [⟨0, 1000⟩]) hco (ht := Targ.bd (f' := 1000030) rfl rfl) ?_|refine zL ?_|refine zM ?_|refine zN ?_|refine zO ?_|refine zP ?_|refine zQ ?_|refine zU ?_|refine zX ?_|refine zY ?_|refine zZ ?_|refine za ?_|refine zb ?_|refine zc ?_|refine zd ?_|refine ze ?_|refine zg ?_|refine zi ?_|refine zl ?_|refine zq ?_|refine zs ?_
        refine cndf (xAB ?_)
        refine xL1 ?_
        repeat first|refine zA ?_|refine zB ?_|refine zC ?_|refine zD ?_|refine zE ?_|refine zF ?_|refine zL ?_|refine zM ?_|refine zN ?_|refine zO ?_|refine zP ?_|refine zQ ?_|refine zU ?_|refine zX ?_|refine zY ?_|refine zZ ?_|refine za ?_|refine zb ?_|refine zc ?_|refine zd ?_|refine ze ?_|refine zg ?_|refine zi ?_|refine zl ?_|refine zq ?_|refine zs ?_
        refine xNS (xLh (xAB ?_))
        refine xLh ?_
        repeat first|refine zA ?_|refine zB ?_|refine zC ?_|refine zD ?_|refine zE ?_|refine zF ?_|refine zL ?_|refine zM ?_|refine zN ?_|refine zO ?_|refine zP ?_|refine zQ ?_|refine zU ?_|refine zX ?_|refine zY ?_|refine zZ ?_|refine za ?_|refine zb ?_|refine zc ?_|refine zd ?_|refine ze ?_|refine zg ?_|refine zi ?_|refine zl ?_|refine zq ?_|refine zs ?_
        exact agL (j, d, o) ⟨by simp only; omega, hv, hdd, by simp only; omega, by simp only; omega⟩ (xBd (h1 := by refine ⟨rfl, rfl, ?_, trivial⟩; exact congrArg (fun z => some (PV.int .i64 z)) (by simp only; omega)))
      | false =>
        rw [hc] at hco
        rw [if_neg (by rw [hc]; simp)] at hv hdd
        repeat first|refine zA ?_|refine zB ?_|refine zC ?_|refine zD ?_|refine zE ?_|refine zF ?_|refine cl (lent := [⟨0, 1000⟩]) hco (ht := Targ.bd (f' := 1000030) rfl rfl) ?_|refine zL ?_|refine zM ?_|refine zN ?_|refine zO ?_|refine zP ?_|refine zQ ?_|refine zU ?_|refine zX ?_|refine zY ?_|refine zZ ?_|refine za ?_|refine zb ?_|refine zc ?_|refine zd ?_|refine ze ?_|refine zg ?_|refine zi ?_|refine zl ?_|refine zq ?_|refine zs ?_
        refine cndt ?_
        repeat first|refine zA ?_|refine zB ?_|refine zC ?_|refine zD ?_|refine zE ?_|refine zF ?_|refine o_v (vap encM m) ?_|refine cl (lent := [⟨0, 1000⟩]) hpa (ht := Targ.bd (f' := 1000031) rfl rfl) ?_|refine zL ?_|refine zM ?_|refine zN ?_|refine zO ?_|refine zP ?_|refine zQ ?_|refine zU ?_|refine zX ?_|refine zY ?_|refine zZ ?_|refine za ?_|refine zb ?_|refine zc ?_|refine zd ?_|refine ze ?_|refine zg ?_|refine zi ?_|refine zl ?_|refine zq ?_|refine zs ?_
        refine xL1 ?_
        repeat first|refine zA ?_|refine zB ?_|refine zC ?_|refine zD ?_|refine zE ?_|refine zF ?_|refine zL ?_|refine zM ?_|refine zN ?_|refine zO ?_|refine zP ?_|refine zQ ?_|refine zU ?_|refine zX ?_|refine zY ?_|refine zZ ?_|refine za ?_|refine zb ?_|refine zc ?_|refine zd ?_|refine ze ?_|refine zg ?_|refine zi ?_|refine zl ?_|refine zq ?_|refine zs ?_
        refine xNS (xLh (xAB ?_))
        refine xLh ?_
        repeat first|refine zA ?_|refine zB ?_|refine zC ?_|refine zD ?_|refine zE ?_|refine zF ?_|refine zL ?_|refine zM ?_|refine zN ?_|refine zO ?_|refine zP ?_|refine zQ ?_|refine zU ?_|refine zX ?_|refine zY ?_|refine zZ ?_|refine za ?_|refine zb ?_|refine zc ?_|refine zd ?_|refine ze ?_|refine zg ?_|refine zi ?_|refine zl ?_|refine zq ?_|refine zs ?_
        exact agL (j, nxtL m d, o ++ [m]) ⟨by simp only; omega, by rw [← hv]; simp, hdd, by simp only; omega, by simp only [List.length_append, List.length_cons, List.length_nil]; omega⟩ (xBd (h1 := by refine ⟨rfl, rfl, ?_, trivial⟩; exact congrArg (fun z => some (PV.int .i64 z)) (by simp only; omega)))
    · have hi0 : i = 0 := by have h' := of_decide_eq_false h; omega
      subst hi0
      simp only [List.take_zero, List.reverse_nil, xBW, xFV, List.append_nil] at hv hdd
      rw [← hdd, ← hv]
      exact mid0 () trivial xBd
  · intro _ _
    have hrl : (xBW l.reverse (xAM dead)).length ≤ 40 := by
      have := (xEd l.reverse (xAM dead)).length_le
      rw [List.length_reverse] at this
      omega
    have hrv := rev_vc (xs := xBW l.reverse (xAM dead)) (N := ((xBW l.reverse (xAM dead)).map encM).length) (by simp) (by omega)
    repeat first|refine zA ?_|refine zB ?_|refine zC ?_|refine zD ?_|refine zE ?_|refine zF ?_|refine cl (lent := [⟨1, 7⟩]) hrv ?_|refine zL ?_|refine zM ?_|refine zN ?_|refine zO ?_|refine zP ?_|refine zQ ?_|refine zU ?_|refine zX ?_|refine zY ?_|refine zZ ?_|refine za ?_|refine zb ?_|refine zc ?_|refine zd ?_|refine ze ?_|refine zg ?_|refine zi ?_|refine zl ?_|refine zq ?_|refine zs ?_
    refine xAC ⟨.inr rfl, ?_⟩
    have hlr : ((xBm l dead).1.map encM).length = ((xBW l.reverse (xAM dead)).map encM).length := by simp [xBm]
    exact oG [⟨1, 7⟩] (v' := .tup [.own ⟨0, 0⟩ ((xBW l.reverse (xAM dead)).map encM).length 0 ((xBW l.reverse (xAM dead)).map encM).length, .sh false ((xBm l dead).2.map encS)]) (hv := by rw [← hlr])
end Go.Proofs
open Go.V Go.Pu
open Go.V renaming xA4 → zA, nl → zB, xAQ → zC, rg → zD, xAK → zE, bq → zF, xA2 → zO, xAo → zP, xAn → zQ, xEX → zU, xBt → zX, xB6 → zY, xDW → zZ, xAl → za, xAm → zb, xCF → zd, xBL → ze, xA7 → zg, xDY → zl, xDX → zm
set_option linter.unusedVariables false
set_option linter.unusedSimpArgs false
set_option maxRecDepth 20000
namespace Go.Proofs
def vc16 : VCode :=
 (.seq
 (.region 0 false [
 .e 2 (.copy (.c .nils)) 0])
 (.seq
 (.region 1 false [
 .e 6 (.copy (.t 0)) 8192,
 .e 7 (.call (.c (.fn 12 [])) [(.t 6), (.c .nils)]) 8200,
 .e 5 (.copy (.t 7)) 8208,
 .e 8 (.extract (.t 5) 0) 8216,
 .e 9 (.extract (.t 5) 1) 8224,
 .e 3 (.copy (.t 8)) 8232,
 .e 4 (.copy (.t 9)) 8240])
 (.seq
 (.region 2 false [
 .e 10 (.copy (.t 3)) 16384,
 .e 2 (.copy (.t 10)) 16392])
 .ret)))
theorem vf16 : VF Tryz.prog 16 = some (11, vc16, [.tmp 2]) := by kernel_rfl
def vc18 : VCode :=
 (.seq
 (.region 0 false [
 .e 4 (.copy (.c .nils)) 0])
 (.seq
 (.region 1 false [
 .e 5 (.copy (.t 0)) 8192,
 .e 6 (.copy (.t 1)) 8200,
 .e 7 (.bslice 1 [.nils] 2 [(0, (.t 5)), (1, (.t 6))]) 8208,
 .e 8 (.call (.c (.fn 38 [])) [(.t 7)]) 8216,
 .e 9 (.call (.c (.fn 16 [])) [(.t 8)]) 8224,
 .e 4 (.copy (.t 9)) 8232])
 .ret))
theorem vf18 : VF Tryz.prog 18 = some (10, vc18, [.tmp 4]) := by kernel_rfl
def vc13 : VCode :=
 (.seq
 (.region 0 false [
 .e 4 (.alloc [.nils, .nils]) 0])
 (.seq
 (.region 1 false [
 .e 12 (.bslice 8 [(.int .i64 0), (.str []), (.str []), (.str []), (.str []), (.str []), (.str []), (.int .i64 0)] 0 []) 8192,
 .e 5 (.copy (.t 12)) 8200])
 (.seq
 (.region 2 false [
 .e 13 (.copy (.t 1)) 16384,
 .e 14 (.call (.c (.fn 34 [])) [(.t 13)]) 16392,
 .e 6 (.copy (.t 14)) 16400])
 (.seq
 (.seq
 (.region 3 false [
 .e 15 (.copy (.t 0)) 24576,
 .e 16 (.len (.t 15)) 24584,
 .e 17 (.bin .sub (.t 16) (.c (.int .i64 1))) 24592,
 .e 7 (.copy (.t 17)) 24600])
 (.block 0
 (.loop
 (.seq
 (.seq
 (.region 4 false [
 .e 18 (.copy (.t 7)) 32768,
 .e 19 (.bin .geq (.t 18) (.c (.int .i64 0))) 32776])
 (.cond (.t 19)
 .skip
 (.exit 0)))
 (.seq
 (.block 1
 (.seq
 (.region 6 false [
 .e 22 (.copy (.t 0)) 49152,
 .e 23 (.copy (.t 7)) 49160,
 .e 24 (.iaddr 8 (.t 22) (.t 23)) 49168,
 .e 25 (.load true 8 (.t 24)) 49176,
 .e 8 (.alloc [(.int .i64 0), (.str []), (.str []), (.str []), (.str []), (.str []), (.str []), (.int .i64 0)]) 49184,
 .h (.store 8 (.t 8) (.t 25)) 49192 []])
 (.seq
 (.region 7 false [
 .e 26 (.load true 8 (.t 8)) 57344,
 .e 27 (.call (.c (.fn 25 [])) [(.t 26)]) 57352,
 .e 28 (.copy (.t 6)) 57360,
 .e 29 (.call (.c (.fn 35 [])) [(.t 27), (.t 28)]) 57368,
 .e 9 (.copy (.t 29)) 57376])
 (.seq
 (.seq
 (.region 8 false [
 .e 30 (.copy (.t 9)) 65536,
 .e 31 (.len (.t 30)) 65544,
 .e 32 (.bin .eql (.t 31) (.c (.int .i64 0))) 65552])
 (.cond (.t 32)
 (.exit 1)
 .skip))
 (.seq
 (.region 9 false [
 .e 33 (.load true 8 (.t 8)) 73728,
 .e 34 (.bslice 8 [(.int .i64 0), (.str []), (.str []), (.str []), (.str []), (.str []), (.str []), (.int .i64 0)] 1 [(0, (.t 33))]) 73736,
 .e 10 (.copy (.t 34)) 73744])
 (.seq
 (.region 10 false [
 .e 35 (.copy (.t 10)) 81920,
 .e 36 (.copy (.t 5)) 81928,
 .e 37 (.append 8 112 [(.int .i64 0), (.str []), (.str []), (.str []), (.str []), (.str []), (.str []), (.int .i64 0)] (.t 35) (.t 36)) 81936,
 .e 5 (.copy (.t 37)) 81944])
 (.seq
 (.region 11 false [
 .e 38 (.bslice 2 [(.str []), (.str [])] 0 []) 90112,
 .e 39 (.copy (.t 6)) 90120,
 .e 40 (.append 2 32 [(.str []), (.str [])] (.t 38) (.t 39)) 90128,
 .e 11 (.copy (.t 40)) 90136])
 (.seq
 (.region 12 false [
 .e 41 (.copy (.t 11)) 98304,
 .e 42 (.load true 8 (.t 8)) 98312,
 .e 43 (.call (.c (.fn 36 [])) [(.t 42)]) 98320,
 .e 44 (.append 2 32 [(.str []), (.str [])] (.t 41) (.t 43)) 98328,
 .e 11 (.copy (.t 44)) 98336])
 (.region 13 false [
 .e 45 (.copy (.t 11)) 106496,
 .e 46 (.load true 8 (.t 8)) 106504,
 .e 47 (.call (.c (.fn 37 [])) [(.t 46)]) 106512,
 .e 48 (.call (.c (.fn 35 [])) [(.t 45), (.t 47)]) 106520,
 .e 6 (.copy (.t 48)) 106528])))))))))
 (.region 5 false [
 .e 20 (.copy (.t 7)) 40960,
 .e 21 (.bin .sub (.t 20) (.c (.int .i64 1))) 40968,
 .e 7 (.copy (.t 21)) 40976]))))))
 (.seq
 (.region 14 false [
 .e 49 (.copy (.t 5)) 114688,
 .e 50 (.copy (.t 6)) 114696,
 .e 51 (.build [.nils, .nils] [(0, 1, (.t 49)), (1, 1, (.t 50))]) 114704,
 .h (.store 2 (.t 4) (.t 51)) 114712 []])
 .ret)))))
theorem vf13 : VF Tryz.prog 13 = some (52, vc13, [.cell true 2 4]) := by kernel_rfl
theorem xBk {l : List MsgL} (hl : l.length ≤ 40) (hm : ∀ m ∈ l, MsgSz m) : VC Tryz.prog 16 [.sh false (l.map encM)] [] (.sh false ((xAT l).map encM)) [] := by
  have h := xJs (l := l) (q := .nils) (dead := []) (.inl ⟨rfl, rfl⟩) hl hm (by simp)
  refine xAG vf16 ?_ (Nat.le_of_ble_eq_true rfl) (by intro vs h; cases h)
  repeat first|refine zA ?_|refine zB ?_|refine zC ?_|refine zD ?_|refine zE ?_|refine zF ?_|refine cf h ?_|refine zm ?_
  exact xAC ⟨.inr rfl, oAny rfl⟩
theorem xKb {a b : List MsgL} (hl : a.length + b.length ≤ 40) (ha : ∀ m ∈ a, MsgSz m) (hb : ∀ m ∈ b, MsgSz m) : VC Tryz.prog 18 [.sh false (a.map encM), .sh false (b.map encM)] [] (.sh false ((xAT (a ++ b)).map encM)) [] := by
  have hc := xLf (q := .sh false ([a, b].map xIG)) (ls := [a, b]) Sl.sh (by simp) (by simp [totM]; omega)
  have e : ([a, b].flatten : List MsgL) = a ++ b := by simp
  rw [e] at hc
  have hr := xBk (l := a ++ b) (by rw [List.length_append]; omega) (fun m h => (List.mem_append.1 h).elim (ha m) (hb m))
  refine xAG vf18 ?_ (Nat.le_of_ble_eq_true rfl) (by intro vs h; cases h)
  repeat first|refine zA ?_|refine zB ?_|refine zC ?_|refine zD ?_|refine zE ?_|refine zF ?_|refine cv hc ?_|refine cf hr ?_|refine ze ?_
  exact xAC ⟨.inr rfl, oAny rfl⟩
theorem rnormC {q : PV} {l : List SpanL} (hq : Sl q (l.map encS)) (hl : l.length ≤ 100000) : VC Tryz.prog 34 [q] [] (.sh false ((xAM l).map encS)) [] := xB3 (xHs hq hl)
theorem xMP {q p : PV} {l m : List SpanL} (hq : Sl q (l.map encS)) (hp : Sl p (m.map encS)) (hl : l.length ≤ 200) (hm : m.length ≤ 200) : VC Tryz.prog 35 [q, p] [] (.sh false ((xBM l m).map encS)) [] := by
  rw [xMi]
  exact xB3 (xMO hq hp hl hm)
set_option maxHeartbeats 4000000 in
theorem xKI {l : List MsgL} {q : PV} {dead : List SpanL} (hq : Sl q (dead.map encS)) (hl : l.length ≤ 40) (hm : ∀ m ∈ l, MsgSz m) (hd : dead.length ≤ 50) :
    VC Tryz.prog 13 [.sh false (l.map encM), q] [] (.agg [.sh false ((xBm l dead).1.map encM), .sh false ((xBm l dead).2.map encS)]) [] := by
  have hno := rnormC (q := q) (l := dead) hq (by omega)
  have hnl := xB5 dead
  have hcl := hq.closed
  have hml : (l.map encM).length = l.length := List.length_map _
  refine xAG vf13 ?_ (Nat.le_of_ble_eq_true rfl) (by intro vs h; cases h)
  repeat first|refine zA ?_|refine zB ?_|refine zC ?_|refine zD ?_|refine zE ?_|refine zF ?_|refine cf hno ?_|refine zO ?_|refine zP ?_|refine zQ ?_|refine zU ?_|refine zX ?_|refine zY ?_|refine zZ ?_|refine za ?_|refine zb ?_|refine zd ?_|refine ze ?_|refine zg ?_|refine zl ?_
  refine xFM (Imp.wr (t := 5) rfl (xAX (els := ([] : List MsgL).map encM) rfl rfl)) ?_
  refine xAJ (fun (g : Nat × List SpanL × List MsgL) => [(0, .sh false (l.map encM)), (4, .ptr ⟨1, 0⟩ 1 0 0), (5, .sh false (g.2.2.map encM)), (6, .sh false (g.2.1.map encS)), (7, .int .i64 ((g.1 : Int) - 1))]) (fun g => [(⟨1, 0⟩, ⟨true, false, 2, [[.nils, .nils]]⟩)]) (fun g => g.1)
    (fun g => g.1 ≤ l.length ∧ (xBW (l.take g.1).reverse g.2.1).reverse ++ g.2.2 = (xBm l dead).1 ∧ xFV (l.take g.1).reverse g.2.1 = (xBm l dead).2 ∧ g.2.1.length + 3 * g.1 ≤ 170 ∧ g.2.2.length + g.1 ≤ 40)
    (l.length, xAM dead, []) (xBd (h1 := by refine ⟨rfl, rfl, rfl, rfl, ?_, trivial⟩; exact congrArg (fun z => some (PV.int .i64 z)) (by simp))) ⟨Nat.le_refl _, by simp only [List.take_length, List.append_nil]; rfl, by simp only [List.take_length]; rfl, by simp only; omega, by simp only [List.length_nil]; omega⟩ ?_
  rintro ⟨i, d, o⟩ ⟨hi, hv, hdd, hdl, hol⟩
  dsimp only at hi hv hdd hdl hol ⊢
  repeat first|refine zA ?_|refine zB ?_|refine zC ?_|refine zD ?_|refine zE ?_|refine zF ?_|refine zO ?_|refine zP ?_|refine zQ ?_|refine zU ?_|refine zX ?_|refine zY ?_|refine zZ ?_|refine za ?_|refine zb ?_|refine zd ?_|refine ze ?_|refine zg ?_|refine zl ?_
  refine cnd (fun h => xAB ?_) (fun h => xAE ?_)
  · obtain ⟨j, rfl⟩ : ∃ j, i = j + 1 := ⟨i - 1, by have h' := of_decide_eq_true h; omega⟩
    obtain ⟨m, hx⟩ : ∃ m, l[j]? = some m := ⟨_, List.getElem?_eq_getElem (by omega)⟩
    have hxe := gm (enc := encM) (n := ((j + 1 : Nat) : Int) - 1) hx (by omega)
    have hlt2 : ((j + 1 : Nat) : Int) - 1 < ((l.map encM).length : Nat) := by omega
    have hge2 : 0 ≤ ((j + 1 : Nat) : Int) - 1 := by omega
    have hmz := hm m (List.mem_of_getElem? hx)
    have hwl := xDo m
    have hkl := xGP m
    have hrl := xF0 m
    have hnx := xJl m d
    have hw := xEm hmz
    have hk := xMR hmz
    have hrd := xMM hmz
    have m1 := xMP (q := .sh false ((xAh m).map encS)) (p := .sh false (d.map encS)) Sl.sh Sl.sh (by omega) (by omega)
    have m2 := xMP (q := .sh false ((d ++ xA5 m).map encS)) (p := .sh false ((xCU m).map encS)) Sl.sh Sl.sh (by rw [List.length_append]; omega) (by omega)
    rw [xI4 hx] at hv hdd
    rw [xBW] at hv
    rw [xFV] at hdd
    have e : ((((xBM (xAh m) d).map encS).length : Int) == 0) = covL m d := by
      unfold covL
      rw [List.length_map, Bool.eq_iff_iff]
      simp
    cases hc : covL m d with
    | true =>
      rw [hc] at e
      rw [if_pos hc] at hv hdd
      repeat first|refine zA ?_|refine zB ?_|refine zC ?_|refine zD ?_|refine zE ?_|refine zF ?_|refine cf hw ?_|refine cf m1 ?_|refine zO ?_|refine zP ?_|refine zQ ?_|refine zU ?_|refine zX ?_|refine zY ?_|refine zZ ?_|refine za ?_|refine zb ?_|refine zd ?_|refine ze ?_|refine zg ?_|refine zl ?_
      refine cndt (xAE ?_)
      repeat first|refine zA ?_|refine zB ?_|refine zC ?_|refine zD ?_|refine zE ?_|refine zF ?_|refine zO ?_|refine zP ?_|refine zQ ?_|refine zU ?_|refine zX ?_|refine zY ?_|refine zZ ?_|refine za ?_|refine zb ?_|refine zd ?_|refine ze ?_|refine zg ?_|refine zl ?_
      exact agn (Q := fun _ _ => True) (j, d, o) ⟨by simp only; omega, hv, hdd, by simp only; omega, by simp only; omega⟩ (xBd (h1 := by refine ⟨rfl, rfl, rfl, rfl, ?_, trivial⟩; exact congrArg (fun z => some (PV.int .i64 z)) (by simp only; omega)))
    | false =>
      rw [hc] at e
      rw [if_neg (by rw [hc]; simp)] at hv hdd
      repeat first|refine zA ?_|refine zB ?_|refine zC ?_|refine zD ?_|refine zE ?_|refine zF ?_|refine cf hw ?_|refine cf m1 ?_|refine zO ?_|refine zP ?_|refine zQ ?_|refine zU ?_|refine zX ?_|refine zY ?_|refine zZ ?_|refine za ?_|refine zb ?_|refine zd ?_|refine ze ?_|refine zg ?_|refine zl ?_
      refine cndf (xAB ?_)
      repeat first|refine zA ?_|refine zB ?_|refine zC ?_|refine zD ?_|refine zE ?_|refine zF ?_|refine o_v (vaps encM [m] o) ?_|refine o_v (vaps encS [] d) ?_|refine cf hk ?_|refine o_v (vaps encS d (xA5 m)) ?_|refine cf hrd ?_|refine cf m2 ?_|refine zO ?_|refine zP ?_|refine zQ ?_|refine zU ?_|refine zX ?_|refine zY ?_|refine zZ ?_|refine za ?_|refine zb ?_|refine zd ?_|refine ze ?_|refine zg ?_|refine zl ?_
      refine agn (Q := fun _ _ => True) (j, nxtL m d, [m] ++ o) ⟨by simp only; omega, by rw [← hv]; simp, hdd, by simp only; omega, by simp only [List.length_append, List.length_cons, List.length_nil]; omega⟩ ((Imp.wr (t := 5) rfl (xAX rfl rfl)).trans (xBd (h1 := by refine ⟨rfl, rfl, rfl, rfl, ?_, trivial⟩; exact congrArg (fun z => some (PV.int .i64 z)) (by simp only; omega))))
  · have hi0 : i = 0 := by have h' := of_decide_eq_false h; omega
    subst hi0
    simp only [List.take_zero, List.reverse_nil, xBW, xFV, List.nil_append] at hv hdd
    rw [← hdd, ← hv]
    repeat first|refine zA ?_|refine zB ?_|refine zC ?_|refine zD ?_|refine zE ?_|refine zF ?_|refine zO ?_|refine zP ?_|refine zQ ?_|refine zU ?_|refine zX ?_|refine zY ?_|refine zZ ?_|refine za ?_|refine zb ?_|refine zd ?_|refine ze ?_|refine zg ?_|refine zl ?_
    exact xAC ⟨.inr rfl, oAny rfl⟩
end Go.Proofs
open Go.V Go.Pu
open Go.V renaming xA4 → zA, nl → zB, xAQ → zC, rg → zD, xAK → zE, bq → zF, xBD → zL, xBE → zM, xBs → zN, xA2 → zO, xAo → zP, xAn → zQ, xCp → zT, xCo → zW, xBt → zX, xB6 → zY, xDW → zZ, xAl → za, xAm → zb, xFT → zc, xBL → ze, xPu → zh, xG4 → zi, xBa → zj, xBb → zk, o_eqc → zp, skF → zw, skU → zx
set_option linter.unusedVariables false
set_option linter.unusedSimpArgs false
set_option maxRecDepth 20000
namespace Go.Proofs
def vc17 : VCode :=
 (.seq
 (.region 0 false [
 .e 2 (.copy (.c .nils)) 0])
 (.seq
 (.region 1 false [
 .e 3 (.copy (.t 0)) 8192,
 .e 4 (.call (.c (.fn 13 [])) [(.t 3), (.c .nils)]) 8200,
 .e 5 (.field false 0 1 (.t 4)) 8208,
 .e 2 (.copy (.t 5)) 8216])
 .ret))
theorem vf17 : VF Tryz.prog 17 = some (6, vc17, [.tmp 2]) := by kernel_rfl
def vc19 : VCode :=
 (.seq
 (.region 0 false [
 .e 4 (.copy (.c .nils)) 0])
 (.seq
 (.region 1 false [
 .e 6 (.bslice 8 [(.int .i64 0), (.str []), (.str []), (.str []), (.str []), (.str []), (.str []), (.int .i64 0)] 0 []) 8192,
 .e 7 (.copy (.t 0)) 8200,
 .e 8 (.append 8 112 [(.int .i64 0), (.str []), (.str []), (.str []), (.str []), (.str []), (.str []), (.int .i64 0)] (.t 6) (.t 7)) 8208,
 .e 5 (.copy (.t 8)) 8216])
 (.seq
 (.region 2 false [
 .e 9 (.copy (.t 5)) 16384,
 .e 10 (.copy (.t 1)) 16392,
 .e 11 (.append 8 112 [(.int .i64 0), (.str []), (.str []), (.str []), (.str []), (.str []), (.str []), (.int .i64 0)] (.t 9) (.t 10)) 16400,
 .e 12 (.call (.c (.fn 17 [])) [(.t 11)]) 16408,
 .e 4 (.copy (.t 12)) 16416])
 .ret)))
theorem vf19 : VF Tryz.prog 19 = some (13, vc19, [.tmp 4]) := by kernel_rfl
def vc14 : VCode :=
 (.seq
 (.region 0 false [
 .e 4 (.copy (.c (.bool false))) 0])
 (.seq
 (.seq
 (.region 1 false [
 .e 6 (.copy (.t 0)) 8192,
 .e 7 (.len (.t 6)) 8200,
 .e 8 (.copy (.t 1)) 8208,
 .e 9 (.len (.t 8)) 8216,
 .e 10 (.bin .neq (.t 7) (.t 9)) 8224])
 (.cond (.t 10)
 (.seq
 (.region 2 false [
 .e 4 (.copy (.c (.bool false))) 16384])
 .ret)
 .skip))
 (.seq
 (.seq
 (.region 3 false [
 .e 5 (.copy (.c (.int .i64 0))) 24576])
 (.block 0
 (.loop
 (.seq
 (.seq
 (.region 4 false [
 .e 11 (.copy (.t 5)) 32768,
 .e 12 (.copy (.t 0)) 32776,
 .e 13 (.len (.t 12)) 32784,
 .e 14 (.bin .lss (.t 11) (.t 13)) 32792])
 (.cond (.t 14)
 .skip
 (.exit 0)))
 (.seq
 (.block 1
 (.seq
 (.region 6 true [
 .e 17 (.copy (.t 0)) 49152,
 .e 18 (.copy (.t 5)) 49160,
 .f 19 (.iaddr 8 (.t 17) (.t 18)) 49168 [0, 1],
 .f 20 (.load true 8 (.t 19)) 49176 [2, 0, 1],
 .e 21 (.copy (.t 1)) 49184,
 .e 22 (.copy (.t 5)) 49192,
 .f 23 (.iaddr 8 (.t 21) (.t 22)) 49200 [4, 5],
 .f 24 (.load true 8 (.t 23)) 49208 [6, 4, 5],
 .f 25 (.eqc true [1, 2, 2, 2, 2, 2, 2, 1] (.t 20) (.t 24)) 49216 [3, 2, 0, 1, 7, 6, 4, 5]])
 (.cond (.t 25)
 (.seq
 (.region 7 false [
 .e 4 (.copy (.c (.bool false))) 57344])
 .ret)
 .skip)))
 (.region 5 false [
 .e 15 (.copy (.t 5)) 40960,
 .e 16 (.bin .add (.t 15) (.c (.int .i64 1))) 40968,
 .e 5 (.copy (.t 16)) 40976]))))))
 (.seq
 (.region 8 false [
 .e 4 (.copy (.c (.bool true))) 65536])
 .ret))))
theorem vf14 : VF Tryz.prog 14 = some (26, vc14, [.tmp 4]) := by kernel_rfl
def vc15 : VCode :=
 (.seq
 (.region 0 false [
 .e 4 (.copy (.c (.bool false))) 0])
 (.seq
 (.seq
 (.region 1 false [
 .e 6 (.copy (.t 0)) 8192,
 .e 7 (.len (.t 6)) 8200,
 .e 8 (.copy (.t 1)) 8208,
 .e 9 (.len (.t 8)) 8216,
 .e 10 (.bin .neq (.t 7) (.t 9)) 8224])
 (.cond (.t 10)
 (.seq
 (.region 2 false [
 .e 4 (.copy (.c (.bool false))) 16384])
 .ret)
 .skip))
 (.seq
 (.seq
 (.region 3 false [
 .e 5 (.copy (.c (.int .i64 0))) 24576])
 (.block 0
 (.loop
 (.seq
 (.seq
 (.region 4 false [
 .e 11 (.copy (.t 5)) 32768,
 .e 12 (.copy (.t 0)) 32776,
 .e 13 (.len (.t 12)) 32784,
 .e 14 (.bin .lss (.t 11) (.t 13)) 32792])
 (.cond (.t 14)
 .skip
 (.exit 0)))
 (.seq
 (.block 1
 (.seq
 (.region 6 true [
 .e 17 (.copy (.t 0)) 49152,
 .e 18 (.copy (.t 5)) 49160,
 .f 19 (.iaddr 2 (.t 17) (.t 18)) 49168 [0, 1],
 .f 20 (.load true 2 (.t 19)) 49176 [2, 0, 1],
 .e 21 (.copy (.t 1)) 49184,
 .e 22 (.copy (.t 5)) 49192,
 .f 23 (.iaddr 2 (.t 21) (.t 22)) 49200 [4, 5],
 .f 24 (.load true 2 (.t 23)) 49208 [6, 4, 5],
 .f 25 (.eqc true [2, 2] (.t 20) (.t 24)) 49216 [3, 2, 0, 1, 7, 6, 4, 5]])
 (.cond (.t 25)
 (.seq
 (.region 7 false [
 .e 4 (.copy (.c (.bool false))) 57344])
 .ret)
 .skip)))
 (.region 5 false [
 .e 15 (.copy (.t 5)) 40960,
 .e 16 (.bin .add (.t 15) (.c (.int .i64 1))) 40968,
 .e 5 (.copy (.t 16)) 40976]))))))
 (.seq
 (.region 8 false [
 .e 4 (.copy (.c (.bool true))) 65536])
 .ret))))
theorem vf15 : VF Tryz.prog 15 = some (26, vc15, [.tmp 4]) := by kernel_rfl
def vc21 : VCode :=
 (.seq
 (.region 0 false [
 .e 2 (.box (.t 0)) 0,
 .e 3 (.box (.t 1)) 8,
 .e 4 (.copy (.c (.bool false))) 16])
 (.seq
 (.region 1 false [
 .e 8 (.load true 8 (.t 2)) 8192,
 .e 9 (.call (.c (.fn 25 [])) [(.t 8)]) 8200,
 .e 5 (.copy (.t 9)) 8208])
 (.seq
 (.seq
 (.region 2 false [
 .e 6 (.copy (.c (.int .i64 0))) 16384])
 (.block 0
 (.loop
 (.seq
 (.seq
 (.region 3 false [
 .e 10 (.copy (.t 6)) 24576,
 .e 11 (.copy (.t 5)) 24584,
 .e 12 (.len (.t 11)) 24592,
 .e 13 (.bin .lss (.t 10) (.t 12)) 24600])
 (.cond (.t 13)
 .skip
 (.exit 0)))
 (.seq
 (.block 1
 (.seq
 (.region 5 true [
 .e 16 (.faddr 3 (.t 3)) 40960,
 .f 17 (.faddr 1 (.t 16)) 40968 [0],
 .f 18 (.load false 1 (.t 17)) 40976 [1, 0],
 .f 19 (.bin .eql (.t 18) (.c (.str []))) 40984 [2, 1, 0],
 .f 20 (.copy (.t 19)) 40992 [3, 2, 1, 0],
 .g 21 (.copy (.t 5)) 4 20 false 41000 [4, 3, 2, 1, 0],
 .g 22 (.copy (.t 6)) 4 20 false 41008 [4, 3, 2, 1, 0],
 .g 23 (.iaddr 2 (.t 21) (.t 22)) 4 20 false 41016 [5, 4, 3, 2, 1, 0, 6],
 .g 24 (.faddr 1 (.t 23)) 4 20 false 41024 [7, 5, 4, 3, 2, 1, 0, 6],
 .g 25 (.load false 1 (.t 24)) 4 20 false 41032 [8, 7, 5, 4, 3, 2, 1, 0, 6],
 .g 26 (.bin .neq (.t 25) (.c (.str []))) 4 20 false 41040 [9, 8, 7, 5, 4, 3, 2, 1, 0, 6],
 .g 27 (.copy (.t 26)) 4 20 false 41048 [10, 9, 8, 7, 5, 4, 3, 2, 1, 0, 6],
 .g 28 (.copy (.t 5)) 11 27 true 41056 [11, 10, 9, 8, 7, 5, 4, 3, 2, 1, 0, 6],
 .g 29 (.copy (.t 6)) 11 27 true 41064 [11, 10, 9, 8, 7, 5, 4, 3, 2, 1, 0, 6],
 .g 30 (.iaddr 2 (.t 28) (.t 29)) 11 27 true 41072 [12, 11, 10, 9, 8, 7, 5, 4, 3, 2, 1, 0, 6, 13],
 .g 31 (.faddr 1 (.t 30)) 11 27 true 41080 [14, 12, 11, 10, 9, 8, 7, 5, 4, 3, 2, 1, 0, 6, 13],
 .g 32 (.load false 1 (.t 31)) 11 27 true 41088 [15, 14, 12, 11, 10, 9, 8, 7, 5, 4, 3, 2, 1, 0, 6, 13],
 .g 33 (.faddr 3 (.t 3)) 11 27 true 41096 [11, 10, 9, 8, 7, 5, 4, 3, 2, 1, 0, 6],
 .g 34 (.faddr 1 (.t 33)) 11 27 true 41104 [17, 11, 10, 9, 8, 7, 5, 4, 3, 2, 1, 0, 6],
 .g 35 (.load false 1 (.t 34)) 11 27 true 41112 [18, 17, 11, 10, 9, 8, 7, 5, 4, 3, 2, 1, 0, 6],
 .g 36 (.bin .leq (.t 32) (.t 35)) 11 27 true 41120 [16, 15, 14, 12, 11, 10, 9, 8, 7, 5, 4, 3, 2, 1, 0, 6, 13, 19, 18, 17],
 .g 37 (.pick (.t 27) (.t 36) (.c (.bool false))) 4 20 false 41128 [11, 10, 9, 8, 7, 5, 4, 3, 2, 1, 0, 6, 20, 16, 15, 14, 12, 13, 19, 18, 17],
 .f 38 (.pick (.t 20) (.c (.bool true)) (.t 37)) 41136 [4, 3, 2, 1, 0, 21, 11, 10, 9, 8, 7, 5, 6, 20, 16, 15, 14, 12, 13, 19, 18, 17],
 .f 7 (.copy (.t 38)) 41144 [22, 4, 3, 2, 1, 0, 21, 11, 10, 9, 8, 7, 5, 6, 20, 16, 15, 14, 12, 13, 19, 18, 17]])
 (.seq
 (.region 6 true [
 .e 39 (.copy (.t 5)) 49152,
 .e 40 (.copy (.t 6)) 49160,
 .f 41 (.iaddr 2 (.t 39) (.t 40)) 49168 [0, 1],
 .f 42 (.faddr 0 (.t 41)) 49176 [2, 0, 1],
 .f 43 (.load false 1 (.t 42)) 49184 [3, 2, 0, 1],
 .e 44 (.faddr 3 (.t 3)) 49192,
 .f 45 (.faddr 0 (.t 44)) 49200 [5],
 .f 46 (.load false 1 (.t 45)) 49208 [6, 5],
 .f 47 (.bin .lss (.t 43) (.t 46)) 49216 [4, 3, 2, 0, 1, 7, 6, 5],
 .f 48 (.copy (.t 47)) 49224 [8, 4, 3, 2, 0, 1, 7, 6, 5],
 .g 49 (.copy (.t 7)) 9 48 false 49232 [9, 8, 4, 3, 2, 0, 1, 7, 6, 5],
 .g 50 (.not (.t 49)) 9 48 false 49240 [10, 9, 8, 4, 3, 2, 0, 1, 7, 6, 5],
 .f 51 (.pick (.t 48) (.c (.bool true)) (.t 50)) 49248 [9, 8, 4, 3, 2, 0, 1, 7, 6, 5, 11, 10]])
 (.cond (.t 51)
 (.seq
 (.region 7 false [
 .e 4 (.copy (.c (.bool false))) 57344])
 .ret)
 .skip))))
 (.region 4 false [
 .e 14 (.copy (.t 6)) 32768,
 .e 15 (.bin .add (.t 14) (.c (.int .i64 1))) 32776,
 .e 6 (.copy (.t 15)) 32784]))))))
 (.seq
 (.region 8 false [
 .e 4 (.copy (.c (.bool true))) 65536])
 .ret))))
theorem vf21 : VF Tryz.prog 21 = some (52, vc21, [.tmp 4]) := by kernel_rfl
theorem xHG {l : List MsgL} (hl : l.length ≤ 40) (hm : ∀ m ∈ l, MsgSz m) : VC Tryz.prog 17 [.sh false (l.map encM)] [] (.sh false ((xAT l).map encM)) [] := by
  have h := xKI (l := l) (q := .nils) (dead := []) (.inl ⟨rfl, rfl⟩) hl hm (by simp)
  refine xAG vf17 ?_ (Nat.le_of_ble_eq_true rfl) (by intro vs h; cases h)
  repeat first|refine zA ?_|refine zB ?_|refine zC ?_|refine zD ?_|refine zE ?_|refine zF ?_|refine cf h ?_|refine zh ?_
  exact xAC ⟨.inr rfl, oAny rfl⟩
theorem xMQ {a b : List MsgL} (hl : a.length + b.length ≤ 40) (ha : ∀ m ∈ a, MsgSz m) (hb : ∀ m ∈ b, MsgSz m) : VC Tryz.prog 19 [.sh false (a.map encM), .sh false (b.map encM)] [] (.sh false ((xAT (a ++ b)).map encM)) [] := by
  have hr := xHG (l := a ++ b) (by rw [List.length_append]; omega) (fun m h => (List.mem_append.1 h).elim (ha m) (hb m))
  refine xAG vf19 ?_ (Nat.le_of_ble_eq_true rfl) (by intro vs h; cases h)
  repeat first|refine zA ?_|refine zB ?_|refine zC ?_|refine zD ?_|refine zE ?_|refine zF ?_|refine o_v (vaps encM [] a) ?_|refine o_v (vaps encM a b) ?_|refine cf hr ?_|refine ze ?_
  exact xAC ⟨.inr rfl, oAny rfl⟩
theorem veqM (a b : MsgL) {neg : Bool} {lvl site : Nat} {tf : TF} {hf : HF} {x y : VX} (hx : ev tf x = some (.agg (encM a)) := by rfl) (hy : ev tf y = some (.agg (encM b)) := by rfl) :
    vop lvl site tf hf (.eqc neg [1, 2, 2, 2, 2, 2, 2, 1] x y) = some ⟨.bool (if neg then !decide (a = b) else decide (a = b)), [], []⟩ := by
  obtain ⟨a1, a2, a3, ⟨a4, a5⟩, a6, a7, a8⟩ := a
  obtain ⟨b1, b2, b3, ⟨b4, b5⟩, b6, b7, b8⟩ := b
  have h : (a1 == b1 && (a2 == b2 && (a3 == b3 && (a4 == b4 && (a5 == b5 && (a6 == b6 && (a7 == b7 && a8 == b8))))))) = decide ((⟨a1, a2, a3, ⟨a4, a5⟩, a6, a7, a8⟩ : MsgL) = ⟨b1, b2, b3, ⟨b4, b5⟩, b6, b7, b8⟩) := by
    rw [Bool.eq_iff_iff]
    simp [and_assoc]
  rw [← h]
  simp [vop, hx, hy, xAf, xCA, retV]
theorem veqS (a b : SpanL) {neg : Bool} {lvl site : Nat} {tf : TF} {hf : HF} {x y : VX} (hx : ev tf x = some (.agg (encS a)) := by rfl) (hy : ev tf y = some (.agg (encS b)) := by rfl) :
    vop lvl site tf hf (.eqc neg [2, 2] x y) = some ⟨.bool (if neg then !decide (a = b) else decide (a = b)), [], []⟩ := by
  obtain ⟨a4, a5⟩ := a
  obtain ⟨b4, b5⟩ := b
  have h : (a4 == b4 && a5 == b5) = decide ((⟨a4, a5⟩ : SpanL) = ⟨b4, b5⟩) := by
    rw [Bool.eq_iff_iff]
    simp
  rw [← h]
  simp [vop, hx, hy, xAf, xCA, retV]
theorem xDp {a b : List MsgL} (ha : a.length ≤ 60000) (hb : b.length ≤ 60000) : VC Tryz.prog 14 [.sh false (a.map encM), .sh false (b.map encM)] [] (.bool (decide (a = b))) [] := by
  refine xAG vf14 ?_ (Nat.le_of_ble_eq_true rfl) (by intro vs h; cases h)
  repeat first|refine zA ?_|refine zB ?_|refine zC ?_|refine zD ?_|refine zE ?_|refine zF ?_|refine zO ?_|refine zP ?_|refine zQ ?_|refine zT ?_|refine zW ?_|refine zX ?_|refine zY ?_|refine zZ ?_|refine za ?_|refine zb ?_|refine zp ?_
  refine cnd (fun h => ?_) (fun h => xAB ?_)
  · repeat first|refine zA ?_|refine zB ?_|refine zC ?_|refine zD ?_|refine zE ?_|refine zF ?_|refine zO ?_|refine zP ?_|refine zQ ?_|refine zT ?_|refine zW ?_|refine zX ?_|refine zY ?_|refine zZ ?_|refine za ?_|refine zb ?_|refine zp ?_
    refine xAC ⟨.inr rfl, oB ?_⟩
    symm
    rw [decide_eq_false_iff_not]
    rintro rfl
    simp at h
  have hab : a.length = b.length := by simp at h; omega
  repeat first|refine zA ?_|refine zB ?_|refine zC ?_|refine zD ?_|refine zE ?_|refine zF ?_|refine zO ?_|refine zP ?_|refine zQ ?_|refine zT ?_|refine zW ?_|refine zX ?_|refine zY ?_|refine zZ ?_|refine za ?_|refine zb ?_|refine zp ?_
  refine xAJ (fun (g : Nat) => [(0, .sh false (a.map encM)), (1, .sh false (b.map encM)), (5, .int .i64 g)]) (fun g => []) (fun g => a.length - g)
    (fun g => g ≤ a.length ∧ a.take g = b.take g) 0 goes ⟨Nat.zero_le _, rfl⟩ ?_
  rintro i ⟨hi, hv⟩
  repeat first|refine zA ?_|refine zB ?_|refine zC ?_|refine zD ?_|refine zE ?_|refine zF ?_|refine zO ?_|refine zP ?_|refine zQ ?_|refine zT ?_|refine zW ?_|refine zX ?_|refine zY ?_|refine zZ ?_|refine za ?_|refine zb ?_|refine zp ?_
  refine cnd (fun h => xAB ?_) (fun h => xAE ?_)
  · have hlt : i < a.length := by have h' := of_decide_eq_true h; simp only [List.length_map] at h'; omega
    obtain ⟨x, hx⟩ : ∃ x, a[i]? = some x := ⟨_, List.getElem?_eq_getElem hlt⟩
    obtain ⟨y, hy⟩ : ∃ y, b[i]? = some y := ⟨_, List.getElem?_eq_getElem (by omega)⟩
    have hxe := gm (enc := encM) (n := (i : Int)) hx (by omega)
    have hye := gm (enc := encM) (n := (i : Int)) hy (by omega)
    repeat first|refine zA ?_|refine zB ?_|refine zC ?_|refine zD ?_|refine zE ?_|refine zF ?_|refine o_v (veqM x y) ?_|refine zO ?_|refine zP ?_|refine zQ ?_|refine zT ?_|refine zW ?_|refine zX ?_|refine zY ?_|refine zZ ?_|refine za ?_|refine zb ?_|refine zp ?_
    refine cnd (fun h2 => ?_) (fun h2 => xAB ?_)
    · repeat first|refine zA ?_|refine zB ?_|refine zC ?_|refine zD ?_|refine zE ?_|refine zF ?_|refine zO ?_|refine zP ?_|refine zQ ?_|refine zT ?_|refine zW ?_|refine zX ?_|refine zY ?_|refine zZ ?_|refine za ?_|refine zb ?_|refine zp ?_
      refine xAC ⟨.inr rfl, oB ?_⟩
      have h2 : ¬ x = y := by simpa using h2
      symm
      rw [decide_eq_false_iff_not]
      rintro rfl
      rw [hx] at hy
      exact h2 (by simpa using hy)
    · repeat first|refine zA ?_|refine zB ?_|refine zC ?_|refine zD ?_|refine zE ?_|refine zF ?_|refine zO ?_|refine zP ?_|refine zQ ?_|refine zT ?_|refine zW ?_|refine zX ?_|refine zY ?_|refine zZ ?_|refine za ?_|refine zb ?_|refine zp ?_
      have h2 : x = y := by simpa using h2
      refine agn (i + 1) ⟨by omega, ?_⟩ goes
      rw [List.take_add_one, List.take_add_one, hx, hy, hv, h2]
  · have hge : i = a.length := by have h' := of_decide_eq_false h; simp only [List.length_map] at h'; omega
    subst hge
    rw [List.take_length, hab, List.take_length] at hv
    repeat first|refine zA ?_|refine zB ?_|refine zC ?_|refine zD ?_|refine zE ?_|refine zF ?_|refine zO ?_|refine zP ?_|refine zQ ?_|refine zT ?_|refine zW ?_|refine zX ?_|refine zY ?_|refine zZ ?_|refine za ?_|refine zb ?_|refine zp ?_
    exact xAC ⟨.inr rfl, oB (decide_eq_true hv).symm⟩
theorem xNw {a b : List SpanL} (ha : a.length ≤ 60000) (hb : b.length ≤ 60000) : VC Tryz.prog 15 [.sh false (a.map encS), .sh false (b.map encS)] [] (.bool (decide (a = b))) [] := by
  refine xAG vf15 ?_ (Nat.le_of_ble_eq_true rfl) (by intro vs h; cases h)
  repeat first|refine zA ?_|refine zB ?_|refine zC ?_|refine zD ?_|refine zE ?_|refine zF ?_|refine zO ?_|refine zP ?_|refine zQ ?_|refine zT ?_|refine zW ?_|refine zX ?_|refine zY ?_|refine zZ ?_|refine za ?_|refine zb ?_|refine zp ?_
  refine cnd (fun h => ?_) (fun h => xAB ?_)
  · repeat first|refine zA ?_|refine zB ?_|refine zC ?_|refine zD ?_|refine zE ?_|refine zF ?_|refine zO ?_|refine zP ?_|refine zQ ?_|refine zT ?_|refine zW ?_|refine zX ?_|refine zY ?_|refine zZ ?_|refine za ?_|refine zb ?_|refine zp ?_
    refine xAC ⟨.inr rfl, oB ?_⟩
    symm
    rw [decide_eq_false_iff_not]
    rintro rfl
    simp at h
  have hab : a.length = b.length := by simp at h; omega
  repeat first|refine zA ?_|refine zB ?_|refine zC ?_|refine zD ?_|refine zE ?_|refine zF ?_|refine zO ?_|refine zP ?_|refine zQ ?_|refine zT ?_|refine zW ?_|refine zX ?_|refine zY ?_|refine zZ ?_|refine za ?_|refine zb ?_|refine zp ?_
  refine xAJ (fun (g : Nat) => [(0, .sh false (a.map encS)), (1, .sh false (b.map encS)), (5, .int .i64 g)]) (fun g => []) (fun g => a.length - g)
    (fun g => g ≤ a.length ∧ a.take g = b.take g) 0 goes ⟨Nat.zero_le _, rfl⟩ ?_
  rintro i ⟨hi, hv⟩
  repeat first|refine zA ?_|refine zB ?_|refine zC ?_|refine zD ?_|refine zE ?_|refine zF ?_|refine zO ?_|refine zP ?_|refine zQ ?_|refine zT ?_|refine zW ?_|refine zX ?_|refine zY ?_|refine zZ ?_|refine za ?_|refine zb ?_|refine zp ?_
  refine cnd (fun h => xAB ?_) (fun h => xAE ?_)
  · have hlt : i < a.length := by have h' := of_decide_eq_true h; simp only [List.length_map] at h'; omega
    obtain ⟨x, hx⟩ : ∃ x, a[i]? = some x := ⟨_, List.getElem?_eq_getElem hlt⟩
    obtain ⟨y, hy⟩ : ∃ y, b[i]? = some y := ⟨_, List.getElem?_eq_getElem (by omega)⟩
    have hxe := gm (enc := encS) (n := (i : Int)) hx (by omega)
    have hye := gm (enc := encS) (n := (i : Int)) hy (by omega)
    repeat first|refine zA ?_|refine zB ?_|refine zC ?_|refine zD ?_|refine zE ?_|refine zF ?_|refine o_v (veqS x y) ?_|refine zO ?_|refine zP ?_|refine zQ ?_|refine zT ?_|refine zW ?_|refine zX ?_|refine zY ?_|refine zZ ?_|refine za ?_|refine zb ?_|refine zp ?_
    refine cnd (fun h2 => ?_) (fun h2 => xAB ?_)
    · repeat first|refine zA ?_|refine zB ?_|refine zC ?_|refine zD ?_|refine zE ?_|refine zF ?_|refine zO ?_|refine zP ?_|refine zQ ?_|refine zT ?_|refine zW ?_|refine zX ?_|refine zY ?_|refine zZ ?_|refine za ?_|refine zb ?_|refine zp ?_
      refine xAC ⟨.inr rfl, oB ?_⟩
      have h2 : ¬ x = y := by simpa using h2
      symm
      rw [decide_eq_false_iff_not]
      rintro rfl
      rw [hx] at hy
      exact h2 (by simpa using hy)
    · repeat first|refine zA ?_|refine zB ?_|refine zC ?_|refine zD ?_|refine zE ?_|refine zF ?_|refine zO ?_|refine zP ?_|refine zQ ?_|refine zT ?_|refine zW ?_|refine zX ?_|refine zY ?_|refine zZ ?_|refine za ?_|refine zb ?_|refine zp ?_
      have h2 : x = y := by simpa using h2
      refine agn (i + 1) ⟨by omega, ?_⟩ goes
      rw [List.take_add_one, List.take_add_one, hx, hy, hv, h2]
  · have hge : i = a.length := by have h' := of_decide_eq_false h; simp only [List.length_map] at h'; omega
    subst hge
    rw [List.take_length, hab, List.take_length] at hv
    repeat first|refine zA ?_|refine zB ?_|refine zC ?_|refine zD ?_|refine zE ?_|refine zF ?_|refine zO ?_|refine zP ?_|refine zQ ?_|refine zT ?_|refine zW ?_|refine zX ?_|refine zY ?_|refine zZ ?_|refine za ?_|refine zb ?_|refine zp ?_
    exact xAC ⟨.inr rfl, oB (decide_eq_true hv).symm⟩
theorem xLd {m d : MsgL} (hm : MsgSz m) : VC Tryz.prog 21 [.agg (encM m), .agg (encM d)] [] (.bool (xB1 m d)) [] := by
  have hw := xEm hm
  have hwl := xDo m
  have hfin : xB1 m d = (xAh m).all fun s => xA0 s d.sp := rfl
  generalize xB1 m d = res at hfin ⊢
  generalize xAh m = ws at hw hwl hfin
  have hml : (ws.map encS).length = ws.length := List.length_map _
  refine xAG vf21 ?_ (Nat.le_of_ble_eq_true rfl) (by intro vs h; cases h)
  repeat first|refine zA ?_|refine zB ?_|refine zC ?_|refine zD ?_|refine zE ?_|refine zF ?_|refine cf hw ?_|refine zL ?_|refine zM ?_|refine zN ?_|refine zO ?_|refine zP ?_|refine zQ ?_|refine zT ?_|refine zW ?_|refine zX ?_|refine zY ?_|refine zZ ?_|refine za ?_|refine zb ?_|refine zc ?_|refine zi ?_|refine zj ?_|refine zk ?_|refine zw ?_|refine zx ?_
  refine xAJ (fun (g : Nat) => [(3, .ptr ⟨1, 8⟩ 1 0 0), (5, .sh false (ws.map encS)), (6, .int .i64 g)]) (fun g => [(⟨1, 8⟩, ⟨true, false, 8, [encM d]⟩)]) (fun g => ws.length - g)
    (fun g => g ≤ ws.length ∧ (ws.drop g).all (fun s => xA0 s d.sp) = res) 0 xBd ⟨Nat.zero_le _, by rw [List.drop_zero, hfin]⟩ ?_
  rintro i ⟨hi, hv⟩
  repeat first|refine zA ?_|refine zB ?_|refine zC ?_|refine zD ?_|refine zE ?_|refine zF ?_|refine zL ?_|refine zM ?_|refine zN ?_|refine zO ?_|refine zP ?_|refine zQ ?_|refine zT ?_|refine zW ?_|refine zX ?_|refine zY ?_|refine zZ ?_|refine za ?_|refine zb ?_|refine zc ?_|refine zi ?_|refine zj ?_|refine zk ?_|refine zw ?_|refine zx ?_
  refine cnd (fun h => xAB ?_) (fun h => xAE ?_)
  · have hlt : i < ws.length := by have h' := of_decide_eq_true h; omega
    obtain ⟨s, hs⟩ : ∃ x, ws[i]? = some x := ⟨_, List.getElem?_eq_getElem hlt⟩
    have hse := gm (enc := encS) (n := (i : Int)) hs (by omega)
    rw [xAj hs, List.all_cons] at hv
    cases c1 : (d.sp.hi == []) with
    | true =>
      cases c2 : Op.bytesLess s.lo d.sp.lo with
      | true =>
        have e : xA0 s d.sp = false := by unfold xA0; rw [c2]; rfl
        rw [e] at hv
        repeat first|refine zA ?_|refine zB ?_|refine zC ?_|refine zD ?_|refine zE ?_|refine zF ?_|refine zL ?_|refine zM ?_|refine zN ?_|refine zO ?_|refine zP ?_|refine zQ ?_|refine zT ?_|refine zW ?_|refine zX ?_|refine zY ?_|refine zZ ?_|refine za ?_|refine zb ?_|refine zc ?_|refine zi ?_|refine zj ?_|refine zk ?_|refine zw ?_|refine zx ?_
        refine cndt ?_
        repeat first|refine zA ?_|refine zB ?_|refine zC ?_|refine zD ?_|refine zE ?_|refine zF ?_|refine zL ?_|refine zM ?_|refine zN ?_|refine zO ?_|refine zP ?_|refine zQ ?_|refine zT ?_|refine zW ?_|refine zX ?_|refine zY ?_|refine zZ ?_|refine za ?_|refine zb ?_|refine zc ?_|refine zi ?_|refine zj ?_|refine zk ?_|refine zw ?_|refine zx ?_
        exact xAC ⟨.inr rfl, oB (show false = res by simpa only [Bool.false_and] using hv)⟩
      | false =>
        have e : xA0 s d.sp = true := by unfold xA0; rw [c2, c1]; rfl
        rw [e] at hv
        repeat first|refine zA ?_|refine zB ?_|refine zC ?_|refine zD ?_|refine zE ?_|refine zF ?_|refine zL ?_|refine zM ?_|refine zN ?_|refine zO ?_|refine zP ?_|refine zQ ?_|refine zT ?_|refine zW ?_|refine zX ?_|refine zY ?_|refine zZ ?_|refine za ?_|refine zb ?_|refine zc ?_|refine zi ?_|refine zj ?_|refine zk ?_|refine zw ?_|refine zx ?_
        refine cndf (xAB ?_)
        repeat first|refine zA ?_|refine zB ?_|refine zC ?_|refine zD ?_|refine zE ?_|refine zF ?_|refine zL ?_|refine zM ?_|refine zN ?_|refine zO ?_|refine zP ?_|refine zQ ?_|refine zT ?_|refine zW ?_|refine zX ?_|refine zY ?_|refine zZ ?_|refine za ?_|refine zb ?_|refine zc ?_|refine zi ?_|refine zj ?_|refine zk ?_|refine zw ?_|refine zx ?_
        exact agn (Q := fun _ _ => True) (i + 1) ⟨by omega, by simpa only [Bool.true_and] using hv⟩ xBd
    | false =>
      cases c3 : (s.hi == []) with
      | true =>
        have c4 : (!(s.hi == [])) = false := by rw [c3]; rfl
        have e : xA0 s d.sp = false := by unfold xA0; rw [c1, c3]; simp
        cases c2 : Op.bytesLess s.lo d.sp.lo with
        | true =>
          rw [e] at hv
          repeat first|refine zA ?_|refine zB ?_|refine zC ?_|refine zD ?_|refine zE ?_|refine zF ?_|refine zL ?_|refine zM ?_|refine zN ?_|refine zO ?_|refine zP ?_|refine zQ ?_|refine zT ?_|refine zW ?_|refine zX ?_|refine zY ?_|refine zZ ?_|refine za ?_|refine zb ?_|refine zc ?_|refine zi ?_|refine zj ?_|refine zk ?_|refine zw ?_|refine zx ?_
          refine cndt ?_
          repeat first|refine zA ?_|refine zB ?_|refine zC ?_|refine zD ?_|refine zE ?_|refine zF ?_|refine zL ?_|refine zM ?_|refine zN ?_|refine zO ?_|refine zP ?_|refine zQ ?_|refine zT ?_|refine zW ?_|refine zX ?_|refine zY ?_|refine zZ ?_|refine za ?_|refine zb ?_|refine zc ?_|refine zi ?_|refine zj ?_|refine zk ?_|refine zw ?_|refine zx ?_
          exact xAC ⟨.inr rfl, oB (show false = res by simpa only [Bool.false_and] using hv)⟩
        | false =>
          rw [e] at hv
          repeat first|refine zA ?_|refine zB ?_|refine zC ?_|refine zD ?_|refine zE ?_|refine zF ?_|refine zL ?_|refine zM ?_|refine zN ?_|refine zO ?_|refine zP ?_|refine zQ ?_|refine zT ?_|refine zW ?_|refine zX ?_|refine zY ?_|refine zZ ?_|refine za ?_|refine zb ?_|refine zc ?_|refine zi ?_|refine zj ?_|refine zk ?_|refine zw ?_|refine zx ?_
          refine cndt ?_
          repeat first|refine zA ?_|refine zB ?_|refine zC ?_|refine zD ?_|refine zE ?_|refine zF ?_|refine zL ?_|refine zM ?_|refine zN ?_|refine zO ?_|refine zP ?_|refine zQ ?_|refine zT ?_|refine zW ?_|refine zX ?_|refine zY ?_|refine zZ ?_|refine za ?_|refine zb ?_|refine zc ?_|refine zi ?_|refine zj ?_|refine zk ?_|refine zw ?_|refine zx ?_
          exact xAC ⟨.inr rfl, oB (show false = res by simpa only [Bool.false_and] using hv)⟩
      | false =>
        have c4 : (!(s.hi == [])) = true := by rw [c3]; rfl
        cases c5 : (Op.bytesLess s.hi d.sp.hi || s.hi == d.sp.hi) with
        | true =>
          cases c2 : Op.bytesLess s.lo d.sp.lo with
          | true =>
            have e : xA0 s d.sp = false := by unfold xA0; rw [c2]; rfl
            rw [e] at hv
            repeat first|refine zA ?_|refine zB ?_|refine zC ?_|refine zD ?_|refine zE ?_|refine zF ?_|refine zL ?_|refine zM ?_|refine zN ?_|refine zO ?_|refine zP ?_|refine zQ ?_|refine zT ?_|refine zW ?_|refine zX ?_|refine zY ?_|refine zZ ?_|refine za ?_|refine zb ?_|refine zc ?_|refine zi ?_|refine zj ?_|refine zk ?_|refine zw ?_|refine zx ?_
            refine cndt ?_
            repeat first|refine zA ?_|refine zB ?_|refine zC ?_|refine zD ?_|refine zE ?_|refine zF ?_|refine zL ?_|refine zM ?_|refine zN ?_|refine zO ?_|refine zP ?_|refine zQ ?_|refine zT ?_|refine zW ?_|refine zX ?_|refine zY ?_|refine zZ ?_|refine za ?_|refine zb ?_|refine zc ?_|refine zi ?_|refine zj ?_|refine zk ?_|refine zw ?_|refine zx ?_
            exact xAC ⟨.inr rfl, oB (show false = res by simpa only [Bool.false_and] using hv)⟩
          | false =>
            have e : xA0 s d.sp = true := by unfold xA0; rw [c2, c1, c3, c5]; rfl
            rw [e] at hv
            repeat first|refine zA ?_|refine zB ?_|refine zC ?_|refine zD ?_|refine zE ?_|refine zF ?_|refine zL ?_|refine zM ?_|refine zN ?_|refine zO ?_|refine zP ?_|refine zQ ?_|refine zT ?_|refine zW ?_|refine zX ?_|refine zY ?_|refine zZ ?_|refine za ?_|refine zb ?_|refine zc ?_|refine zi ?_|refine zj ?_|refine zk ?_|refine zw ?_|refine zx ?_
            refine cndf (ht := by rw [c5]; rfl) (xAB ?_)
            repeat first|refine zA ?_|refine zB ?_|refine zC ?_|refine zD ?_|refine zE ?_|refine zF ?_|refine zL ?_|refine zM ?_|refine zN ?_|refine zO ?_|refine zP ?_|refine zQ ?_|refine zT ?_|refine zW ?_|refine zX ?_|refine zY ?_|refine zZ ?_|refine za ?_|refine zb ?_|refine zc ?_|refine zi ?_|refine zj ?_|refine zk ?_|refine zw ?_|refine zx ?_
            exact agn (Q := fun _ _ => True) (i + 1) ⟨by omega, by simpa only [Bool.true_and] using hv⟩ xBd
        | false =>
          have e : xA0 s d.sp = false := by unfold xA0; rw [c1, c3, c5]; simp
          cases c2 : Op.bytesLess s.lo d.sp.lo with
          | true =>
            rw [e] at hv
            repeat first|refine zA ?_|refine zB ?_|refine zC ?_|refine zD ?_|refine zE ?_|refine zF ?_|refine zL ?_|refine zM ?_|refine zN ?_|refine zO ?_|refine zP ?_|refine zQ ?_|refine zT ?_|refine zW ?_|refine zX ?_|refine zY ?_|refine zZ ?_|refine za ?_|refine zb ?_|refine zc ?_|refine zi ?_|refine zj ?_|refine zk ?_|refine zw ?_|refine zx ?_
            refine cndt ?_
            repeat first|refine zA ?_|refine zB ?_|refine zC ?_|refine zD ?_|refine zE ?_|refine zF ?_|refine zL ?_|refine zM ?_|refine zN ?_|refine zO ?_|refine zP ?_|refine zQ ?_|refine zT ?_|refine zW ?_|refine zX ?_|refine zY ?_|refine zZ ?_|refine za ?_|refine zb ?_|refine zc ?_|refine zi ?_|refine zj ?_|refine zk ?_|refine zw ?_|refine zx ?_
            exact xAC ⟨.inr rfl, oB (show false = res by simpa only [Bool.false_and] using hv)⟩
          | false =>
            rw [e] at hv
            repeat first|refine zA ?_|refine zB ?_|refine zC ?_|refine zD ?_|refine zE ?_|refine zF ?_|refine zL ?_|refine zM ?_|refine zN ?_|refine zO ?_|refine zP ?_|refine zQ ?_|refine zT ?_|refine zW ?_|refine zX ?_|refine zY ?_|refine zZ ?_|refine za ?_|refine zb ?_|refine zc ?_|refine zi ?_|refine zj ?_|refine zk ?_|refine zw ?_|refine zx ?_
            refine cndt (ht := by rw [c5]; rfl) ?_
            repeat first|refine zA ?_|refine zB ?_|refine zC ?_|refine zD ?_|refine zE ?_|refine zF ?_|refine zL ?_|refine zM ?_|refine zN ?_|refine zO ?_|refine zP ?_|refine zQ ?_|refine zT ?_|refine zW ?_|refine zX ?_|refine zY ?_|refine zZ ?_|refine za ?_|refine zb ?_|refine zc ?_|refine zi ?_|refine zj ?_|refine zk ?_|refine zw ?_|refine zx ?_
            exact xAC ⟨.inr rfl, oB (show false = res by simpa only [Bool.false_and] using hv)⟩
  · have hge : i = ws.length := by have h' := of_decide_eq_false h; omega
    subst hge
    rw [List.drop_length] at hv
    repeat first|refine zA ?_|refine zB ?_|refine zC ?_|refine zD ?_|refine zE ?_|refine zF ?_|refine zL ?_|refine zM ?_|refine zN ?_|refine zO ?_|refine zP ?_|refine zQ ?_|refine zT ?_|refine zW ?_|refine zX ?_|refine zY ?_|refine zZ ?_|refine za ?_|refine zb ?_|refine zc ?_|refine zi ?_|refine zj ?_|refine zk ?_|refine zw ?_|refine zx ?_
    exact xAC ⟨.inr rfl, oB (show true = res by rw [← hv]; rfl)⟩
end Go.Proofs
open Go.V Go.Pu
set_option linter.unusedVariables false
set_option linter.unusedSimpArgs false
set_option maxRecDepth 20000
namespace Go.Proofs
def dL : PV → Option (List (List PV))
  | .nils => some []
  | .she => some []
  | .sh _ l => some l
  | _ => none
theorem dL_sl {p : PV} {l : List (List PV)} (h : dL p = some l) : Sl p l := by
  cases p <;> simp only [dL] at h <;> first
    | (cases h; exact .inl ⟨rfl, rfl⟩)
    | (cases h; exact .inr (.inl ⟨rfl, rfl⟩))
    | (cases h; exact Sl.sh)
    | cases h
def dM : List PV → Option MsgL
  | [.int .i64 k, .str a, .str b, .str c, .str d, .str e, .str f, .int .i64 n] => some ⟨k, a, b, ⟨c, d⟩, e, f, n⟩
  | _ => none
theorem dM_ok {e : List PV} {x : MsgL} (h : dM e = some x) : e = encM x := by
  unfold dM at h
  split at h
  · cases h; rfl
  · cases h
def dS : List PV → Option SpanL
  | [.str c, .str d] => some ⟨c, d⟩
  | _ => none
theorem dS_ok {e : List PV} {x : SpanL} (h : dS e = some x) : e = encS x := by
  unfold dS at h
  split at h
  · cases h; rfl
  · cases h
def dAll {α : Type} (f : List PV → Option α) : List (List PV) → Option (List α)
  | [] => some []
  | e :: r => (f e).bind fun x => (dAll f r).map (x :: ·)
theorem xJx {α : Type} {f : List PV → Option α} {enc : α → List PV} (hf : ∀ e x, f e = some x → e = enc x) : ∀ {l : List (List PV)} {xs : List α}, dAll f l = some xs → l = xs.map enc
  | [], xs, h => by cases h; rfl
  | e :: r, xs, h => by
    unfold dAll at h
    obtain ⟨x, hx, h⟩ := bind_some h
    obtain ⟨ys, hy, rfl⟩ := map_some h
    rw [xJx hf hy, hf _ _ hx]; rfl
def dMs (p : PV) : Option (List MsgL) := (dL p).bind (dAll dM)
def dSs (p : PV) : Option (List SpanL) := (dL p).bind (dAll dS)
theorem xK1 {p : PV} {xs : List MsgL} (h : dMs p = some xs) : Sl p (xs.map encM) := by
  obtain ⟨l, h1, h2⟩ := bind_some h
  rw [← xJx (fun e x => dM_ok) h2]
  exact dL_sl h1
theorem dSs_ok {p : PV} {xs : List SpanL} (h : dSs p = some xs) : Sl p (xs.map encS) := by
  obtain ⟨l, h1, h2⟩ := bind_some h
  rw [← xJx (fun e x => dS_ok) h2]
  exact dL_sl h1
def szB (m : MsgL) : Bool := decide (1 ≤ m.kind) && decide (m.kind ≤ 6) && Nat.ble m.key.length 1000 && Nat.ble m.fr.length 1000 && Nat.ble m.to.length 1000
def szA : List MsgL → Bool
  | [] => true
  | m :: r => szB m && szA r
theorem xIW : ∀ {l : List MsgL}, szA l = true → ∀ m ∈ l, MsgSz m
  | x :: r, h, m, hm => by
    unfold szA at h
    rw [Bool.and_eq_true] at h
    rcases List.mem_cons.1 hm with rfl | hm
    · have h1 := h.1
      unfold szB at h1
      simp only [Bool.and_eq_true, decide_eq_true_eq] at h1
      obtain ⟨⟨⟨⟨a, b⟩, c⟩, d⟩, e⟩ := h1
      have c := Nat.le_of_ble_eq_true c
      have d := Nat.le_of_ble_eq_true d
      have e := Nat.le_of_ble_eq_true e
      exact ⟨⟨a, b⟩, by omega, by omega, by omega⟩
    · exact xIW h.2 m hm
def orc : V.Call := fun f args hin => match Nat.beq f 12, Nat.beq f 16, Nat.beq f 18, args, hin with
  | true, _, _, [p, q], [] => (dMs p).bind fun l => (dSs q).bind fun d => match szA l && Nat.ble l.length 40 && Nat.ble d.length 50 with
    | true => some (.tup [.sh false ((xBm l d).1.map encM), .sh false ((xBm l d).2.map encS)], [])
    | false => none
  | _, true, _, [p], [] => (dMs p).bind fun l => match szA l && Nat.ble l.length 40 with
    | true => some (.sh false ((xAT l).map encM), [])
    | false => none
  | _, _, true, [p, q], [] => (dMs p).bind fun l => (dMs q).bind fun k => match szA l && szA k && Nat.ble (l.length + k.length) 40 with
    | true => some (.sh false ((xAT (l ++ k)).map encM), [])
    | false => none
  | _, _, _, _, _ => none
theorem xN6 : xB2 Tryz.prog orc := by
  intro f args hin v hout h
  unfold orc at h
  split at h
  · rename_i p q hf
    obtain ⟨l, hl, h⟩ := bind_some h
    obtain ⟨d, hd, h⟩ := bind_some h
    split at h
    · rename_i hc
      cases h
      simp only [Bool.and_eq_true] at hc
      have hf : f = 12 := Nat.eq_of_beq_eq_true (by assumption)
      subst hf
      exact xHl (xJs (q := .sh false (d.map encS)) Sl.sh (Nat.le_of_ble_eq_true hc.1.2) (xIW hc.1.1) (Nat.le_of_ble_eq_true hc.2)) (.cons (PLe.sl (xK1 hl)) (.cons (PLe.sl (dSs_ok hd)) .nil)) (PLe.refl _)
    · cases h
  · rename_i p hf
    obtain ⟨l, hl, h⟩ := bind_some h
    split at h
    · rename_i hc
      cases h
      simp only [Bool.and_eq_true] at hc
      have hf : f = 16 := Nat.eq_of_beq_eq_true (by assumption)
      subst hf
      exact xHl (xBk (Nat.le_of_ble_eq_true hc.2) (xIW hc.1)) (.cons (PLe.sl (xK1 hl)) .nil) (PLe.refl _)
    · cases h
  · obtain ⟨l, hl, h⟩ := bind_some h
    obtain ⟨k, hk, h⟩ := bind_some h
    split at h
    · rename_i hc
      cases h
      simp only [Bool.and_eq_true] at hc
      have hf : f = 18 := Nat.eq_of_beq_eq_true (by assumption)
      subst hf
      exact xHl (xKb (Nat.le_of_ble_eq_true hc.2) (xIW hc.1.1) (xIW hc.1.2)) (.cons (PLe.sl (xK1 hl)) (.cons (PLe.sl (xK1 hk)) .nil)) (PLe.refl _)
    · cases h
  · cases h
theorem xLL : run Tryz.prog orc noX 400 20 10 [] [] = some (.bool true, []) := by kernel_rfl
theorem xFu : VC Tryz.prog 10 [] [] (.bool true) [] := xKF xN6 xOA 20 _ _ _ _ _ xLL
end Go.Proofs
open Go.V Go.Pu
set_option linter.unusedVariables false
set_option linter.unusedSimpArgs false
set_option maxRecDepth 20000
namespace Go.Proofs
theorem xOR {l : List RawM} (hl : l.length ≤ 9223372036854775807) (hr : ∀ r ∈ l, r.ok) (n : Nat) (hn : n ≤ 1000) : VC Tryz.prog 11 [.sh false (l.map encW), .int .i64 n] [] (.sh false ((xCZ l n).map encM)) [] := xKA (xP5 hl hr n hn) (xAX rfl rfl)
theorem xH5 {l : List RawM} {n : Nat} : ∀ m ∈ xCZ l n, MsgSz m := fun m hm => MsgSz.of (xP6 m hm) (xOQ m hm)
theorem xKk (l : List RawM) (n : Nat) : (xCZ l n).length ≤ n := by unfold xCZ; rw [List.length_map, List.length_take]; omega
theorem list_w {l : List RawM} {n : Nat} : ∀ m ∈ xCZ l n, MsgW m := by
  intro m hm
  obtain ⟨x, _, rfl⟩ := List.mem_map.1 hm
  exact xMp x
theorem sz_sub {a b : List MsgL} (h : a.Sublist b) (hb : ∀ m ∈ b, MsgSz m) : ∀ m ∈ a, MsgSz m := fun m hm => hb m (h.subset hm)
theorem decW {q : List PV} (n : q.length = 6) (h : ∀ (j : Nat) (p : PV), j < 6 → q[j]? = some p → InTy (.int .u8) p) : ∃ r : RawM, q = encW r ∧ r.ok := by
  obtain ⟨a, b, c, d, e, f, rfl⟩ := list6 n
  obtain ⟨a, rfl, h1⟩ := xLW (h 0 _ (by omega) rfl)
  obtain ⟨b, rfl, h2⟩ := xLW (h 1 _ (by omega) rfl)
  obtain ⟨c, rfl, h3⟩ := xLW (h 2 _ (by omega) rfl)
  obtain ⟨d, rfl, h4⟩ := xLW (h 3 _ (by omega) rfl)
  obtain ⟨e, rfl, h5⟩ := xLW (h 4 _ (by omega) rfl)
  obtain ⟨f, rfl, h6⟩ := xLW (h 5 _ (by omega) rfl)
  exact ⟨⟨a, b, c, d, e, f⟩, rfl, h1, h2, h3, h4, h5, h6⟩
theorem xK6 {j : Nat} (h : j < 6) : [CTy.int .u8, .int .u8, .int .u8, .int .u8, .int .u8, .int .u8][j]? = some (.int .u8) := by
  match j, h with
  | 0, _ => rfl
  | 1, _ => rfl
  | 2, _ => rfl
  | 3, _ => rfl
  | 4, _ => rfl
  | 5, _ => rfl
theorem xOd {l : List (List PV)} (h : InTy (.sl [.int .u8, .int .u8, .int .u8, .int .u8, .int .u8, .int .u8]) (.sh false l)) : ∃ rs : List RawM, l = rs.map encW ∧ (∀ r ∈ rs, r.ok) ∧ rs.length ≤ 9223372036854775807 := by
  obtain ⟨xs, h1, h2⟩ := xIH (enc := fun (a : { r : RawM // r.ok }) => encW a.1) h fun e hl hc => by
    obtain ⟨r, rfl, hr⟩ := decW hl fun j p hj hp => hc j _ _ (xK6 hj) hp
    exact ⟨⟨r, hr⟩, rfl⟩
  refine ⟨xs.map (·.1), by rw [h1, List.map_map]; rfl, fun r hr => ?_, by simpa [maxLen] using h2⟩
  obtain ⟨a, _, rfl⟩ := List.mem_map.1 hr
  exact a.2
theorem decW1 {q : List PV} (n : q.length = [CTy.int .u8, .int .u8, .int .u8, .int .u8, .int .u8, .int .u8].length) (i : ∀ (j : Nat) (c : CTy) (p : PV), [CTy.int .u8, .int .u8, .int .u8, .int .u8, .int .u8, .int .u8][j]? = some c → q[j]? = some p → InTy c p) : ∃ r : RawM, q = encW r ∧ r.ok :=
  decW n fun j p hj hp => i j _ p (xK6 hj) hp
theorem decSp {l : List (List PV)} (h : InTy (.sl [.str, .str]) (.sh false l)) : ∃ xs : List SpanL, l = xs.map encS ∧ xs.length ≤ maxLen := by
  obtain ⟨xs, h1, h2⟩ := xIH (enc := encS) h fun e hl hc => by
    obtain ⟨a, b, rfl⟩ := list2 hl
    obtain ⟨x, rfl, _⟩ := xI6 (hc 0 _ _ rfl rfl)
    obtain ⟨y, rfl, _⟩ := xI6 (hc 1 _ _ rfl rfl)
    exact ⟨⟨x, y⟩, rfl⟩
  exact ⟨xs, h1, by simpa using h2⟩
theorem xLz {g w : List MsgL} {x y : MsgL} (h : (y :: g).Sublist (x :: w)) : if x = y then g.Sublist w else (y :: g).Sublist w := by
  split
  · rename_i e
    subst e
    exact List.Sublist.of_cons_cons h
  · rename_i e
    cases h with
    | cons _ h => exact h
    | cons_cons _ h => exact (e rfl).elim
theorem vneM (a : MsgL) {lvl site : Nat} {tf : TF} {hf : HF} {x y : VX} (hx : ev tf x = some (.agg (encM a)) := by rfl) (hy : ev tf y = some (.agg (encM a)) := by rfl) :
    vop lvl site tf hf (.eqc true [1, 2, 2, 2, 2, 2, 2, 1] x y) = some ⟨.bool false, [], []⟩ := by
  have h := veqM a a (neg := true) (lvl := lvl) (site := site) (hf := hf) hx hy
  rw [h]
  simp
theorem xJe {l : List MsgL} (hw : ∀ m ∈ l, MsgW m) (h : l ≠ []) : ∃ m, l[l.length - 1]? = some m ∧ (xAT l)[(xAT l).length - 1]? = some m ∧ 0 < (xAT l).length := by
  have e := List.dropLast_concat_getLast h
  have h1 := xCT (l := l.dropLast) (m := l.getLast h) (hw _ (List.getLast_mem h))
  rw [e] at h1
  refine ⟨l.getLast h, ?_, ?_, ?_⟩
  · rw [List.getLast_eq_getElem]
    exact List.getElem?_eq_getElem _
  · rw [h1]
    simp
  · rw [h1]
    simp
end Go.Proofs
