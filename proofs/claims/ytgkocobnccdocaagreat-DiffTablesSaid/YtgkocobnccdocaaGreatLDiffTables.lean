/- LDiffTables -/
import Derived.Test.YtgkocobnccdocaaGreatBc
open Go.V Go.Pu
set_option linter.unusedVariables false
set_option linter.unusedSimpArgs false
set_option maxRecDepth 20000
namespace Go.Proofs
def vc8 : VCode :=
 (.seq
 (.region 0 false [
 .e 4 (.copy (.c (.bool false))) 0])
 (.seq
 (.region 1 false [
 .e 12 (.call (.c (.fn 11 [])) []) 8192,
 .e 5 (.copy (.t 12)) 8200])
 (.seq
 (.region 2 false [
 .e 13 (.copy (.t 0)) 16384,
 .e 14 (.call (.c (.fn 22 [])) [(.t 13), (.c (.int .i64 12))]) 16392,
 .e 15 (.copy (.t 1)) 16400,
 .e 16 (.call (.c (.fn 22 [])) [(.t 15), (.c (.int .i64 12))]) 16408,
 .e 6 (.copy (.t 14)) 16416,
 .e 7 (.copy (.t 16)) 16424])
 (.seq
 (.region 3 false [
 .e 17 (.copy (.t 6)) 24576,
 .e 18 (.copy (.t 7)) 24584,
 .e 19 (.call (.c (.fn 28 [])) [(.t 17), (.t 18)]) 24592,
 .e 8 (.copy (.t 19)) 24600])
 (.seq
 (.seq
 (.region 4 false [
 .e 20 (.copy (.t 6)) 32768,
 .e 21 (.copy (.t 8)) 32776,
 .e 22 (.call (.c (.fn 27 [])) [(.t 20), (.t 21)]) 32784,
 .e 23 (.copy (.t 7)) 32792,
 .e 24 (.call (.c (.fn 26 [])) [(.t 22), (.t 23)]) 32800,
 .e 25 (.not (.t 24)) 32808,
 .e 26 (.copy (.t 25)) 32816,
 .g 27 (.copy (.t 8)) 6 26 false 32824 [],
 .g 28 (.len (.t 27)) 6 26 false 32832 [],
 .g 29 (.bin .eql (.t 28) (.c (.int .i64 0))) 6 26 false 32840 [],
 .g 30 (.copy (.t 6)) 6 26 false 32848 [],
 .g 31 (.copy (.t 7)) 6 26 false 32856 [],
 .g 32 (.call (.c (.fn 26 [])) [(.t 30), (.t 31)]) 6 26 false 32864 [],
 .g 33 (.eqb true (.t 29) (.t 32)) 6 26 false 32872 [],
 .e 34 (.pick (.t 26) (.c (.bool true)) (.t 33)) 32880,
 .e 35 (.copy (.t 34)) 32888,
 .g 36 (.copy (.t 8)) 15 35 false 32896 [],
 .g 37 (.copy (.t 6)) 15 35 false 32904 [],
 .g 38 (.copy (.t 7)) 15 35 false 32912 [],
 .g 39 (.call (.c (.fn 29 [])) [(.t 37), (.t 38)]) 15 35 false 32920 [],
 .g 40 (.call (.c (.fn 17 [])) [(.t 36), (.t 39)]) 15 35 false 32928 [],
 .g 41 (.not (.t 40)) 15 35 false 32936 [],
 .e 42 (.pick (.t 35) (.c (.bool true)) (.t 41)) 32944])
 (.cond (.t 42)
 (.seq
 (.region 5 false [
 .e 4 (.copy (.c (.bool false))) 40960])
 .ret)
 .skip))
 (.seq
 (.seq
 (.region 6 false [
 .e 9 (.copy (.c (.int .i64 0))) 49152])
 (.block 0
 (.loop
 (.seq
 (.seq
 (.region 7 false [
 .e 43 (.copy (.t 9)) 57344,
 .e 44 (.copy (.t 8)) 57352,
 .e 45 (.len (.t 44)) 57360,
 .e 46 (.bin .lss (.t 43) (.t 45)) 57368])
 (.cond (.t 46)
 .skip
 (.exit 0)))
 (.seq
 (.block 1
 (.seq
 (.seq
 (.region 9 true [
 .e 49 (.copy (.t 8)) 73728,
 .e 50 (.copy (.t 9)) 73736,
 .f 51 (.iaddr 8 (.t 49) (.t 50)) 73744 [0, 1],
 .f 52 (.faddr 0 (.t 51)) 73752 [2, 0, 1],
 .f 53 (.load false 1 (.t 52)) 73760 [3, 2, 0, 1],
 .f 54 (.bin .neq (.t 53) (.c (.int .i64 1))) 73768 [4, 3, 2, 0, 1],
 .f 55 (.copy (.t 54)) 73776 [5, 4, 3, 2, 0, 1],
 .g 56 (.copy (.t 8)) 6 55 true 73784 [6, 5, 4, 3, 2, 0, 1],
 .g 57 (.copy (.t 9)) 6 55 true 73792 [6, 5, 4, 3, 2, 0, 1],
 .g 58 (.iaddr 8 (.t 56) (.t 57)) 6 55 true 73800 [7, 6, 5, 4, 3, 2, 0, 1, 8],
 .g 59 (.faddr 0 (.t 58)) 6 55 true 73808 [9, 7, 6, 5, 4, 3, 2, 0, 1, 8],
 .g 60 (.load false 1 (.t 59)) 6 55 true 73816 [10, 9, 7, 6, 5, 4, 3, 2, 0, 1, 8],
 .g 61 (.bin .neq (.t 60) (.c (.int .i64 2))) 6 55 true 73824 [11, 10, 9, 7, 6, 5, 4, 3, 2, 0, 1, 8],
 .f 62 (.pick (.t 55) (.t 61) (.c (.bool false))) 73832 [6, 5, 4, 3, 2, 0, 1, 12, 11, 10, 9, 7, 8],
 .f 63 (.copy (.t 62)) 73840 [13, 6, 5, 4, 3, 2, 0, 1, 12, 11, 10, 9, 7, 8],
 .g 64 (.copy (.t 9)) 14 63 false 73848 [14, 13, 6, 5, 4, 3, 2, 0, 1, 12, 11, 10, 9, 7, 8],
 .g 65 (.bin .gtr (.t 64) (.c (.int .i64 0))) 14 63 false 73856 [15, 14, 13, 6, 5, 4, 3, 2, 0, 1, 12, 11, 10, 9, 7, 8],
 .g 66 (.copy (.t 65)) 14 63 false 73864 [16, 15, 14, 13, 6, 5, 4, 3, 2, 0, 1, 12, 11, 10, 9, 7, 8],
 .g 67 (.copy (.t 8)) 17 66 true 73872 [17, 16, 15, 14, 13, 6, 5, 4, 3, 2, 0, 1, 12, 11, 10, 9, 7, 8],
 .g 68 (.copy (.t 9)) 17 66 true 73880 [17, 16, 15, 14, 13, 6, 5, 4, 3, 2, 0, 1, 12, 11, 10, 9, 7, 8],
 .g 69 (.bin .sub (.t 68) (.c (.int .i64 1))) 17 66 true 73888 [19, 17, 16, 15, 14, 13, 6, 5, 4, 3, 2, 0, 1, 12, 11, 10, 9, 7, 8],
 .g 70 (.iaddr 8 (.t 67) (.t 69)) 17 66 true 73896 [18, 17, 16, 15, 14, 13, 6, 5, 4, 3, 2, 0, 1, 12, 11, 10, 9, 7, 8, 20, 19],
 .g 71 (.faddr 1 (.t 70)) 17 66 true 73904 [21, 18, 17, 16, 15, 14, 13, 6, 5, 4, 3, 2, 0, 1, 12, 11, 10, 9, 7, 8, 20, 19],
 .g 72 (.load false 1 (.t 71)) 17 66 true 73912 [22, 21, 18, 17, 16, 15, 14, 13, 6, 5, 4, 3, 2, 0, 1, 12, 11, 10, 9, 7, 8, 20, 19],
 .g 73 (.copy (.t 8)) 17 66 true 73920 [17, 16, 15, 14, 13, 6, 5, 4, 3, 2, 0, 1, 12, 11, 10, 9, 7, 8],
 .g 74 (.copy (.t 9)) 17 66 true 73928 [17, 16, 15, 14, 13, 6, 5, 4, 3, 2, 0, 1, 12, 11, 10, 9, 7, 8],
 .g 75 (.iaddr 8 (.t 73) (.t 74)) 17 66 true 73936 [24, 17, 16, 15, 14, 13, 6, 5, 4, 3, 2, 0, 1, 12, 11, 10, 9, 7, 8, 25],
 .g 76 (.faddr 1 (.t 75)) 17 66 true 73944 [26, 24, 17, 16, 15, 14, 13, 6, 5, 4, 3, 2, 0, 1, 12, 11, 10, 9, 7, 8, 25],
 .g 77 (.load false 1 (.t 76)) 17 66 true 73952 [27, 26, 24, 17, 16, 15, 14, 13, 6, 5, 4, 3, 2, 0, 1, 12, 11, 10, 9, 7, 8, 25],
 .g 78 (.bin .geq (.t 72) (.t 77)) 17 66 true 73960 [23, 22, 21, 18, 17, 16, 15, 14, 13, 6, 5, 4, 3, 2, 0, 1, 12, 11, 10, 9, 7, 8, 20, 19, 28, 27, 26, 24, 25],
 .g 79 (.pick (.t 66) (.t 78) (.c (.bool false))) 14 63 false 73968 [17, 16, 15, 14, 13, 6, 5, 4, 3, 2, 0, 1, 12, 11, 10, 9, 7, 8, 29, 23, 22, 21, 18, 20, 19, 28, 27, 26, 24, 25],
 .f 80 (.pick (.t 63) (.c (.bool true)) (.t 79)) 73976 [14, 13, 6, 5, 4, 3, 2, 0, 1, 12, 11, 10, 9, 7, 8, 30, 17, 16, 15, 29, 23, 22, 21, 18, 20, 19, 28, 27, 26, 24, 25]])
 (.cond (.t 80)
 (.seq
 (.region 10 false [
 .e 4 (.copy (.c (.bool false))) 81920])
 .ret)
 .skip))
 (.seq
 (.region 11 false [
 .e 10 (.copy (.c (.bool false))) 90112])
 (.seq
 (.seq
 (.region 12 false [
 .e 11 (.copy (.c (.int .i64 0))) 98304])
 (.block 2
 (.loop
 (.seq
 (.seq
 (.region 13 false [
 .e 81 (.copy (.t 11)) 106496,
 .e 82 (.copy (.t 6)) 106504,
 .e 83 (.len (.t 82)) 106512,
 .e 84 (.bin .lss (.t 81) (.t 83)) 106520])
 (.cond (.t 84)
 .skip
 (.exit 2)))
 (.seq
 (.block 3
 (.region 15 true [
 .e 87 (.copy (.t 10)) 122880,
 .f 88 (.copy (.t 87)) 122888 [0],
 .g 89 (.copy (.t 8)) 1 88 false 122896 [1, 0],
 .g 90 (.copy (.t 9)) 1 88 false 122904 [1, 0],
 .g 91 (.iaddr 8 (.t 89) (.t 90)) 1 88 false 122912 [2, 1, 0, 3],
 .g 92 (.faddr 0 (.t 91)) 1 88 false 122920 [4, 2, 1, 0, 3],
 .g 93 (.load false 1 (.t 92)) 1 88 false 122928 [5, 4, 2, 1, 0, 3],
 .g 94 (.bin .eql (.t 93) (.c (.int .i64 1))) 1 88 false 122936 [6, 5, 4, 2, 1, 0, 3],
 .g 95 (.copy (.t 94)) 1 88 false 122944 [7, 6, 5, 4, 2, 1, 0, 3],
 .g 96 (.copy (.t 6)) 8 95 true 122952 [8, 7, 6, 5, 4, 2, 1, 0, 3],
 .g 97 (.copy (.t 11)) 8 95 true 122960 [8, 7, 6, 5, 4, 2, 1, 0, 3],
 .g 98 (.iaddr 3 (.t 96) (.t 97)) 8 95 true 122968 [9, 8, 7, 6, 5, 4, 2, 1, 0, 3, 10],
 .g 99 (.load true 3 (.t 98)) 8 95 true 122976 [11, 9, 8, 7, 6, 5, 4, 2, 1, 0, 3, 10],
 .g 100 (.copy (.t 8)) 8 95 true 122984 [8, 7, 6, 5, 4, 2, 1, 0, 3],
 .g 101 (.copy (.t 9)) 8 95 true 122992 [8, 7, 6, 5, 4, 2, 1, 0, 3],
 .g 102 (.iaddr 8 (.t 100) (.t 101)) 8 95 true 123000 [13, 8, 7, 6, 5, 4, 2, 1, 0, 3, 14],
 .g 103 (.faddr 1 (.t 102)) 8 95 true 123008 [15, 13, 8, 7, 6, 5, 4, 2, 1, 0, 3, 14],
 .g 104 (.load false 1 (.t 103)) 8 95 true 123016 [16, 15, 13, 8, 7, 6, 5, 4, 2, 1, 0, 3, 14],
 .g 105 (.copy (.t 8)) 8 95 true 123024 [8, 7, 6, 5, 4, 2, 1, 0, 3],
 .g 106 (.copy (.t 9)) 8 95 true 123032 [8, 7, 6, 5, 4, 2, 1, 0, 3],
 .g 107 (.iaddr 8 (.t 105) (.t 106)) 8 95 true 123040 [18, 8, 7, 6, 5, 4, 2, 1, 0, 3, 19],
 .g 108 (.faddr 2 (.t 107)) 8 95 true 123048 [20, 18, 8, 7, 6, 5, 4, 2, 1, 0, 3, 19],
 .g 109 (.load false 1 (.t 108)) 8 95 true 123056 [21, 20, 18, 8, 7, 6, 5, 4, 2, 1, 0, 3, 19],
 .g 110 (.copy (.t 8)) 8 95 true 123064 [8, 7, 6, 5, 4, 2, 1, 0, 3],
 .g 111 (.copy (.t 9)) 8 95 true 123072 [8, 7, 6, 5, 4, 2, 1, 0, 3],
 .g 112 (.iaddr 8 (.t 110) (.t 111)) 8 95 true 123080 [23, 8, 7, 6, 5, 4, 2, 1, 0, 3, 24],
 .g 113 (.faddr 7 (.t 112)) 8 95 true 123088 [25, 23, 8, 7, 6, 5, 4, 2, 1, 0, 3, 24],
 .g 114 (.load false 1 (.t 113)) 8 95 true 123096 [26, 25, 23, 8, 7, 6, 5, 4, 2, 1, 0, 3, 24],
 .g 115 (.build [(.str []), (.str []), (.int .i64 0)] [(0, 1, (.t 104)), (1, 1, (.t 109)), (2, 1, (.t 114))]) 8 95 true 123104 [17, 16, 15, 13, 8, 7, 6, 5, 4, 2, 1, 0, 3, 14, 22, 21, 20, 18, 19, 27, 26, 25, 23, 24],
 .g 116 (.eqc false [2, 2, 1] (.t 99) (.t 115)) 8 95 true 123112 [12, 11, 9, 8, 7, 6, 5, 4, 2, 1, 0, 3, 10, 28, 17, 16, 15, 13, 14, 22, 21, 20, 18, 19, 27, 26, 25, 23, 24],
 .g 117 (.pick (.t 95) (.t 116) (.c (.bool false))) 1 88 false 123120 [8, 7, 6, 5, 4, 2, 1, 0, 3, 29, 12, 11, 9, 10, 28, 17, 16, 15, 13, 14, 22, 21, 20, 18, 19, 27, 26, 25, 23, 24],
 .f 118 (.pick (.t 88) (.c (.bool true)) (.t 117)) 123128 [1, 0, 30, 8, 7, 6, 5, 4, 2, 3, 29, 12, 11, 9, 10, 28, 17, 16, 15, 13, 14, 22, 21, 20, 18, 19, 27, 26, 25, 23, 24],
 .f 10 (.copy (.t 118)) 123136 [31, 1, 0, 30, 8, 7, 6, 5, 4, 2, 3, 29, 12, 11, 9, 10, 28, 17, 16, 15, 13, 14, 22, 21, 20, 18, 19, 27, 26, 25, 23, 24]]))
 (.region 14 false [
 .e 85 (.copy (.t 11)) 114688,
 .e 86 (.bin .add (.t 85) (.c (.int .i64 1))) 114696,
 .e 11 (.copy (.t 86)) 114704]))))))
 (.seq
 (.region 16 false [
 .e 119 (.copy (.t 10)) 131072])
 (.cond (.t 119)
 (.seq
 (.region 17 false [
 .e 4 (.copy (.c (.bool false))) 139264])
 .ret)
 .skip))))))
 (.region 8 false [
 .e 47 (.copy (.t 9)) 65536,
 .e 48 (.bin .add (.t 47) (.c (.int .i64 1))) 65544,
 .e 9 (.copy (.t 48)) 65552]))))))
 (.seq
 (.region 18 false [
 .e 120 (.copy (.t 7)) 147456,
 .e 121 (.call (.c (.fn 28 [])) [(.c .nils), (.t 120)]) 147464,
 .e 122 (.len (.t 121)) 147472,
 .e 123 (.copy (.t 7)) 147480,
 .e 124 (.len (.t 123)) 147488,
 .e 125 (.bin .eql (.t 122) (.t 124)) 147496,
 .e 126 (.copy (.t 125)) 147504,
 .g 127 (.copy (.t 6)) 6 126 true 147512 [],
 .g 128 (.call (.c (.fn 28 [])) [(.t 127), (.c .nils)]) 6 126 true 147520 [],
 .g 129 (.len (.t 128)) 6 126 true 147528 [],
 .g 130 (.copy (.t 6)) 6 126 true 147536 [],
 .g 131 (.len (.t 130)) 6 126 true 147544 [],
 .g 132 (.bin .eql (.t 129) (.t 131)) 6 126 true 147552 [],
 .e 133 (.pick (.t 126) (.t 132) (.c (.bool false))) 147560,
 .e 134 (.copy (.t 133)) 147568,
 .g 135 (.copy (.t 5)) 14 134 true 147576 [],
 .e 136 (.pick (.t 134) (.t 135) (.c (.bool false))) 147584,
 .e 4 (.copy (.t 136)) 147592])
 .ret)))))))
theorem vf8 : VF Tryz.prog 8 = some (137, vc8, [.tmp 4]) := by kernel_rfl
theorem xE7 : ∀ (a b : List PairL) {m : MsgL}, m ∈ xAt a b → (∃ x ∈ a, m = delD x.key) ∨ ∃ y ∈ b, m = putD y
  | [], b, m, h => by
    rw [xCt] at h
    obtain ⟨y, hy, rfl⟩ := List.mem_map.1 h
    exact .inr ⟨y, hy, rfl⟩
  | x :: a, [], m, h => by
    rw [xF5] at h
    obtain ⟨y, hy, rfl⟩ := List.mem_map.1 h
    exact .inl ⟨y, hy, rfl⟩
  | x :: a, y :: b, m, h => by
    rw [xE8] at h
    have h1 := @xE7 a (y :: b) m
    have h2 := @xE7 a b m
    have h3 := @xE7 (x :: a) b m
    have up : ((∃ z ∈ a, m = delD z.key) ∨ ∃ z ∈ b, m = putD z) → (∃ z ∈ x :: a, m = delD z.key) ∨ ∃ z ∈ y :: b, m = putD z := fun h => h.imp (fun ⟨z, hz, e⟩ => ⟨z, by simp [hz], e⟩) fun ⟨z, hz, e⟩ => ⟨z, by simp [hz], e⟩
    split at h
    · rcases List.mem_cons.1 h with rfl | h
      · exact .inl ⟨x, by simp, rfl⟩
      · exact (h1 h).imp (fun ⟨z, hz, e⟩ => ⟨z, by simp [hz], e⟩) id
    · split at h
      · split at h
        · exact up (h2 h)
        · rcases List.mem_cons.1 h with rfl | h
          · exact .inr ⟨y, by simp, rfl⟩
          · exact up (h2 h)
      · rcases List.mem_cons.1 h with rfl | h
        · exact .inr ⟨y, by simp, rfl⟩
        · exact (h3 h).imp id fun ⟨z, hz, e⟩ => ⟨z, by simp [hz], e⟩
theorem xT5 : ∀ (l : List MsgL) {N B : Nat} {t : List PairL}, TabOk N B t → (∀ m ∈ l, (m.kind = 1 ∨ m.kind = 2) ∧ m.key.length ≤ B) → TabOk (N + l.length) B (allT t l)
  | [], N, B, t, h, _ => h
  | m :: l, N, B, t, h, hm => by
    obtain ⟨h1, h2⟩ := hm m (by simp)
    have : TabOk (N + 1) B (xAu t m) := by
      refine ⟨xAs h.s m, ?_, ?_⟩
      · unfold xAu
        rcases h1 with h1 | h1
        · rw [if_pos h1]; exact Nat.le_trans (xKH _ _) (by have := h.l; omega)
        · rw [if_neg (by omega), if_pos h1]; exact Nat.le_trans (xRQ _ _) (by have := h.l; omega)
      · unfold xAu
        rcases h1 with h1 | h1
        · rw [if_pos h1, xEg]
          intro p hp
          rcases xGC hp with rfl | hp
          · exact h2
          · exact h.k p hp
        · rw [if_neg (by omega), if_pos h1]
          exact fun p hp => h.k p (List.mem_filter.1 hp).1
    have ih := xT5 l this fun x hx => hm x (by simp [hx])
    rw [List.length_cons, show N + (l.length + 1) = N + 1 + l.length by omega]
    exact ih
theorem pw_get {α : Type} {R : α → α → Prop} {l : List α} (h : l.Pairwise R) {i : Nat} {x y : α} (hx : l[i]? = some x) (hy : l[i + 1]? = some y) : R x y := by
  obtain ⟨h1, rfl⟩ := List.getElem?_eq_some_iff.1 hx
  obtain ⟨h2, rfl⟩ := List.getElem?_eq_some_iff.1 hy
  exact List.pairwise_iff_getElem.1 h i (i + 1) h1 h2 (by omega)
abbrev lt0 (a b : List PairL) (ms : List MsgL) (i : Nat) : Tmps := [(5, .bool true), (6, .sh false (a.map encP)), (7, .sh false (b.map encP)), (8, .sh false (ms.map encM)), (9, .int .i64 i)]
set_option maxHeartbeats 8000000 in
theorem xJ9 {xs ys : List RawL} : VC Tryz.prog 8 [.sh false (xs.map encR), .sh false (ys.map encR)] [] (.bool true) [] := by
  have h11 := xLH
  have ta := xKA (xs := xs) 12 (by omega)
  have tb := xKA (xs := ys) 12 (by omega)
  have sa := xK7 xs 12
  have sb := xK7 ys 12
  have la := xHp xs 12
  have lb := xHp ys 12
  have ka := xHq xs 12
  have kb := xHq ys 12
  generalize xBu xs 12 = a at *
  generalize xBu ys 12 = b at *
  have ht := xFt (a := a) (b := b) (by omega)
  have hr := xOg sa sb (by omega)
  have hml := xF4 a b
  have hmem : ∀ m ∈ xAt a b, _ := fun m hm => xTb sa sb hm
  have hfrom : ∀ m ∈ xAt a b, MsgLen 8 m := fun m hm => by
    rcases xE7 a b hm with ⟨x, hx, rfl⟩ | ⟨y, hy, rfl⟩
    · exact ⟨ka x hx, by simp [delD], by simp [delD], by simp [delD], by simp [delD]⟩
    · exact ⟨kb y hy, by simp [putD], by simp [putD], by simp [putD], by simp [putD]⟩
  have hsrt := xMt sa sb
  have hlead := xJt sa sb
  have hnone := xRP sa sb
  have hab := all_vc (l := xAt a b) (t := a) (fun i hi => (xT5 ((xAt a b).take i) (N := 12) (B := 8) ⟨sa, la, ka⟩ fun m hm => ⟨(hmem m (List.mem_of_mem_take hm)).1, (hfrom m (List.mem_of_mem_take hm)).key⟩).mono (by rw [List.length_take]; omega) (by omega)) (by omega) (fun m hm => (hmem m hm).2.2) (fun m hm => MsgLen.mono (hfrom m hm) (by decide))
  rw [hlead] at hab
  rw [← xBw a b sa sb] at hr
  have n1 : (xAt [] b).length = b.length := by rw [xCt, List.length_map]
  have n2 : (xAt a []).length = a.length := by rw [xF5, List.length_map]
  have t1 := xCQ (args' := [.nils, .sh false (b.map encP)]) (xFt (a := []) (b := b) (by simp; omega)) (.cons (PLe.sl (.inl ⟨rfl, rfl⟩)) (.cons (PLe.refl _) .nil)) (PLe.refl _)
  have t2 := xCQ (args' := [.sh false (a.map encP), .nils]) (xFt (a := a) (b := []) (by simp; omega)) (.cons (PLe.refl _) (.cons (PLe.sl (.inl ⟨rfl, rfl⟩)) .nil)) (PLe.refl _)
  generalize xAt [] b = mb at *
  generalize xAt a [] = ma at *
  generalize xAt a b = ms at *
  have s1 := xNM (a := b) (b := b) (by omega) (by omega)
  rw [decide_eq_true rfl] at s1
  have s2 := xNM (a := a) (b := b) (by omega) (by omega)
  have s3 := xSU (a := ms) (b := ms) (by omega) (by omega)
  rw [decide_eq_true rfl] at s3
  have mm : (ms.map encM).length = ms.length := List.length_map _
  have mA : (a.map encP).length = a.length := List.length_map _
  have g1 : (!((((ms.map encM).length : Int) == 0) == decide (a = b))) = false := by
    rw [mm]
    cases ms with
    | nil => simp [hnone.1 rfl]
    | cons m r =>
      have : ¬ a = b := fun e => by have := hnone.2 e; cases this
      simp [this]; omega
  have g2 : (((mb.map encM).length : Int) == ((b.map encP).length : Int)) = true := by rw [List.length_map, List.length_map, n1]; simp
  have g3 : (((ma.map encM).length : Int) == ((a.map encP).length : Int)) = true := by rw [List.length_map, List.length_map, n2]; simp
  refine vcs vf8 ?_
  refine xAb (rg ?_)
  repeat first|refine xAP ?_|refine sop ?_
  refine nl ?_
  refine xAb (rg ?_)
  repeat first|refine xAP ?_|refine cv0 h11 ?_|refine sop ?_
  refine nl ?_
  refine xAb (rg ?_)
  repeat first|refine xAP ?_|refine cf ta ?_|refine cf tb ?_|refine sop ?_
  refine nl ?_
  refine xAb (rg ?_)
  repeat first|refine xAP ?_|refine cf ht ?_|refine sop ?_
  refine nl ?_
  repeat first|refine sgo ?_|refine cf hab ?_|refine cv0 s1 ?_|refine cv0 s2 ?_|refine cf hr ?_|refine cv0 s3 ?_|refine sop ?_
  refine cndf (xAB ?_)
  repeat first|refine sgo ?_|refine sop ?_
  refine xAE (fun (i : Nat) => lt0 a b ms i) (fun _ => []) (fun i => ms.length - i) (fun i => i ≤ ms.length) 0 xAi (Nat.zero_le _) ?_
  intro i hi
  repeat first|refine sgo ?_|refine sop ?_
  refine cnd (fun h => xAB ?_) (fun h => xAD ?_)
  · have hlt : i < ms.length := by have h' := of_decide_eq_true h; omega
    obtain ⟨m, hx⟩ : ∃ x, ms[i]? = some x := ⟨_, List.getElem?_eq_getElem hlt⟩
    have hxe := gm (enc := encM) (n := (i : Int)) hx (by omega)
    have hlt2 : (i : Int) < ((ms.map encM).length : Nat) := by omega
    obtain ⟨hk, hne, hok⟩ := hmem m (List.mem_of_getElem? hx)
    refine xAb (xA0 ?_)
    refine xCC (lvl := 1) (fun _ => lt0 a b ms i) (fun (_ : Unit) => []) (fun _ => True) ?_ ?_
    · obtain ⟨k, m2, m3, m4, m5, m6, m7⟩ := m
      simp only at hk
      rcases Nat.eq_zero_or_pos i with h0 | h0
      · have hg0 : decide ((i : Int) > 0) = false := decide_eq_false (by omega)
        rcases hk with rfl | rfl
        · repeat first|refine sgo ?_|refine sop ?_
          refine cndf (xAB ?_)
          exact mid0 () trivial xAi
        · repeat first|refine sgo ?_|refine sop ?_
          refine cndf (xAB ?_)
          exact mid0 () trivial xAi
      · obtain ⟨j, rfl⟩ : ∃ j, i = j + 1 := ⟨i - 1, by omega⟩
        have hg0 : decide ((((j + 1 : Nat) : Int)) > 0) = true := decide_eq_true (by omega)
        obtain ⟨m', hx'⟩ : ∃ x, ms[j]? = some x := ⟨_, List.getElem?_eq_getElem (by omega)⟩
        have hxe' := gm (enc := encM) (n := ((j + 1 : Nat) : Int) - 1) hx' (by omega)
        have hlt3 : ((j + 1 : Nat) : Int) - 1 < ((ms.map encM).length : Nat) := by omega
        have hge3 : 0 ≤ ((j + 1 : Nat) : Int) - 1 := by omega
        have hks := pw_get hsrt hx' hx
        simp only at hks
        have hks' : (!Op.bytesLess m'.key m2) = false := by rw [hks]; rfl
        rcases hk with rfl | rfl
        · repeat first|refine sgo ?_|refine sop ?_
          refine cndf (xAB ?_)
          exact mid0 () trivial xAi
        · repeat first|refine sgo ?_|refine sop ?_
          refine cndf (xAB ?_)
          exact mid0 () trivial xAi
    · intro _ _
      repeat first|refine sgo ?_|refine sop ?_
      refine xAE (fun (j : Nat) => lt0 a b ms i ++ [(10, .bool false), (11, .int .i64 j)]) (fun _ => []) (fun j => a.length - j) (fun j => j ≤ a.length) 0 xAi (Nat.zero_le _) ?_
      intro j hj
      repeat first|refine sgo ?_|refine sop ?_
      refine cnd (fun h => xAB ?_) (fun h => xAD ?_)
      · have hltj : j < a.length := by have h' := of_decide_eq_true h; omega
        obtain ⟨p, hp⟩ : ∃ x, a[j]? = some x := ⟨_, List.getElem?_eq_getElem hltj⟩
        have hpe := gm (enc := encP) (n := (j : Int)) hp (by omega)
        have hltj2 : (j : Int) < ((a.map encP).length : Nat) := by omega
        have hpne := fun h => hne h p (List.mem_of_getElem? hp)
        obtain ⟨k, m2, m3, m4, m5, m6, m7⟩ := m
        simp only at hk hpne
        rcases hk with rfl | rfl
        · have hd : decide (p = ⟨m2, m3, m7⟩) = false := decide_eq_false (hpne rfl)
          repeat first|refine sgo ?_|refine o_v0 (xON p ⟨m2, m3, m7⟩) ?_|refine sop ?_
          refine agn (Q := fun _ _ => True) (j + 1) (by omega) ?_
          exact xAi (h1 := by simp only [hd]; repeat' first|exact trivial|apply And.intro|rfl)
        · repeat first|refine sgo ?_|refine sop ?_
          exact agn (Q := fun _ _ => True) (j + 1) (by omega) xAi
      · repeat first|refine sgo ?_|refine sop ?_
        refine cndf (xAB ?_)
        repeat first|refine sgo ?_|refine sop ?_
        exact agn (Q := fun _ _ => True) (i + 1) (by omega) xAi
  · repeat first|refine sgo ?_|refine cf t1 ?_|refine cf t2 ?_|refine sop ?_
    exact xAC ⟨.inr rfl, oB rfl⟩
theorem decR {l : List (List PV)} (h : InTy (.sl [.int .u8, .int .u8, .int .u8]) (.sh false l)) : ∃ xs : List RawL, l = xs.map encR ∧ xs.length ≤ maxLen := xKp h fun e hl hc => by
  obtain ⟨a, b, c, rfl⟩ := xVm hl
  obtain ⟨x, rfl, hx⟩ := xKh (hc 0 _ _ rfl rfl)
  obtain ⟨y, rfl, hy⟩ := xKh (hc 1 _ _ rfl rfl)
  obtain ⟨z, rfl, hz⟩ := xKh (hc 2 _ _ rfl rfl)
  exact ⟨⟨x, y, z, hx, hy, hz⟩, rfl⟩
theorem diffTables_in (l : List (List PV)) (il : InTy (.sl [.int .u8, .int .u8, .int .u8]) (.sh false l)) (l1 : List (List PV)) (il1 : InTy (.sl [.int .u8, .int .u8, .int .u8]) (.sh false l1)) : VC Tryz.prog 8 [.sh false l, .sh false l1] [] (.bool true) [] := by
  obtain ⟨xs, rfl, _⟩ := decR il
  obtain ⟨ys, rfl, _⟩ := decR il1
  exact xJ9
end Go.Proofs
