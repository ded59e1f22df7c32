/- LEnds -/
import Derived.Test.YtlpjfoijjlmgeaaDoorHc
import Derived.Test.YtlpjfoijjlmgeaaDoorPv
open Go.V Go.Pu
set_option linter.unusedVariables false
set_option linter.unusedSimpArgs false
set_option maxRecDepth 20000
namespace Go.Proofs
def vc7 : VCode :=
 (.seq
 (.region 0 false [
 .e 6 (.copy (.c (.bool false))) 0])
 (.seq
 (.region 1 false [
 .e 15 (.call (.c (.fn 8 [])) []) 8192,
 .e 7 (.copy (.t 15)) 8200])
 (.seq
 (.seq
 (.region 2 false [
 .e 16 (.copy (.t 1)) 16384,
 .e 17 (.lenS (.t 16)) 16392,
 .e 18 (.bin .gtr (.t 17) (.c (.int .i64 60))) 16400,
 .e 19 (.copy (.t 18)) 16408,
 .g 20 (.copy (.t 1)) 3 19 false 16416 [],
 .g 21 (.lenS (.t 20)) 3 19 false 16424 [],
 .g 22 (.bin .eql (.t 21) (.c (.int .i64 0))) 3 19 false 16432 [],
 .e 23 (.pick (.t 19) (.c (.bool true)) (.t 22)) 16440])
 (.cond (.t 23)
 (.seq
 (.region 3 false [
 .e 24 (.copy (.t 7)) 24576,
 .e 6 (.copy (.t 24)) 24584])
 .ret)
 .skip))
 (.seq
 (.region 4 false [
 .e 25 (.copy (.t 0)) 32768,
 .e 26 (.call (.c (.fn 9 [])) [(.t 25), (.c (.int .i64 10))]) 32776,
 .e 27 (.copy (.t 2)) 32784,
 .e 28 (.conv .i64 (.t 27)) 32792,
 .e 29 (.bin .rem (.t 28) (.c (.int .i64 1000000001))) 32800,
 .e 8 (.copy (.t 26)) 32808,
 .e 9 (.copy (.t 29)) 32816])
 (.seq
 (.region 5 false [
 .e 30 (.copy (.t 1)) 40960,
 .e 31 (.call (.c (.fn 16 [])) [(.t 30), (.c .nils)]) 40968,
 .e 10 (.alloc [(.bool false), (.bool false), (.str []), (.str []), (.int .i64 0), (.str []), (.bool false), (.int .i64 0)]) 40976,
 .h (.store 8 (.t 10) (.t 31)) 40984 []])
 (.seq
 (.region 6 false [
 .e 32 (.bslice 8 [(.int .i64 0), (.str []), (.str []), (.str []), (.str []), (.str []), (.str []), (.int .i64 0)] 0 []) 49152,
 .e 33 (.copy (.t 8)) 49160,
 .e 34 (.append 8 112 [(.int .i64 0), (.str []), (.str []), (.str []), (.str []), (.str []), (.str []), (.int .i64 0)] (.t 32) (.t 33)) 49168,
 .e 11 (.copy (.t 34)) 49176])
 (.seq
 (.region 7 false [
 .e 35 (.copy (.t 11)) 57344,
 .e 36 (.build [(.int .i64 0), (.str []), (.str []), (.str []), (.str []), (.str []), (.str []), (.int .i64 0)] [(0, 1, (.c (.int .i64 3)))]) 57352,
 .e 37 (.bslice 8 [(.int .i64 0), (.str []), (.str []), (.str []), (.str []), (.str []), (.str []), (.int .i64 0)] 1 [(0, (.t 36))]) 57360,
 .e 38 (.append 8 112 [(.int .i64 0), (.str []), (.str []), (.str []), (.str []), (.str []), (.str []), (.int .i64 0)] (.t 35) (.t 37)) 57368,
 .e 11 (.copy (.t 38)) 57376])
 (.seq
 (.region 8 false [
 .e 39 (.bslice 8 [(.int .i64 0), (.str []), (.str []), (.str []), (.str []), (.str []), (.str []), (.int .i64 0)] 0 []) 65536,
 .e 40 (.copy (.t 8)) 65544,
 .e 41 (.append 8 112 [(.int .i64 0), (.str []), (.str []), (.str []), (.str []), (.str []), (.str []), (.int .i64 0)] (.t 39) (.t 40)) 65552,
 .e 12 (.copy (.t 41)) 65560])
 (.seq
 (.region 9 false [
 .e 42 (.copy (.t 12)) 73728,
 .e 43 (.copy (.t 1)) 73736,
 .e 44 (.copy (.t 9)) 73744,
 .e 45 (.build [(.int .i64 0), (.str []), (.str []), (.str []), (.str []), (.str []), (.str []), (.int .i64 0)] [(0, 1, (.c (.int .i64 1))), (1, 1, (.t 43)), (2, 1, (.c (.str [118]))), (7, 1, (.t 44))]) 73752,
 .e 46 (.bslice 8 [(.int .i64 0), (.str []), (.str []), (.str []), (.str []), (.str []), (.str []), (.int .i64 0)] 1 [(0, (.t 45))]) 73760,
 .e 47 (.append 8 112 [(.int .i64 0), (.str []), (.str []), (.str []), (.str []), (.str []), (.str []), (.int .i64 0)] (.t 42) (.t 46)) 73768,
 .e 12 (.copy (.t 47)) 73776])
 (.seq
 (.region 10 false [
 .e 49 (.copy (.t 1)) 81920,
 .e 50 (.copy (.t 12)) 81928,
 .e 51 (.call (.c (.fn 16 [])) [(.t 49), (.t 50)]) 81936,
 .e 52 (.build [(.str []), (.str []), (.int .i64 0)] []) 81944,
 .e 53 (.call (.c (.fn 14 [])) [(.t 51), (.t 52), (.c (.bool false))]) 81952,
 .e 48 (.copy (.t 53)) 81960,
 .e 54 (.extract (.t 48) 0) 81968,
 .e 55 (.extract (.t 48) 1) 81976,
 .e 13 (.alloc [(.str []), (.str []), (.int .i64 0)]) 81984,
 .h (.store 3 (.t 13) (.t 54)) 81992 [],
 .e 14 (.copy (.t 55)) 82000])
 (.seq
 (.region 11 false [
 .e 56 (.load true 8 (.t 10)) 90112,
 .e 57 (.copy (.t 1)) 90120,
 .e 58 (.build [(.str []), (.str []), (.int .i64 0)] [(0, 1, (.t 57))]) 90128,
 .e 59 (.copy (.t 1)) 90136,
 .e 60 (.build [(.bool false), (.bool false), (.str []), (.str []), (.int .i64 0), (.str []), (.bool false), (.int .i64 0)] [(2, 3, (.t 58)), (5, 1, (.t 59))]) 90144,
 .e 61 (.eqc false [0, 0, 2, 2, 1, 2, 0, 1] (.t 56) (.t 60)) 90152,
 .e 62 (.copy (.t 61)) 90160,
 .g 63 (.copy (.t 1)) 6 62 true 90168 [],
 .g 64 (.copy (.t 11)) 6 62 true 90176 [],
 .g 65 (.call (.c (.fn 16 [])) [(.t 63), (.t 64)]) 6 62 true 90184 [],
 .g 66 (.build [(.bool false), (.bool false), (.str []), (.str []), (.int .i64 0), (.str []), (.bool false), (.int .i64 0)] [(0, 1, (.c (.bool true)))]) 6 62 true 90192 [],
 .g 67 (.eqc false [0, 0, 2, 2, 1, 2, 0, 1] (.t 65) (.t 66)) 6 62 true 90200 [],
 .e 68 (.pick (.t 62) (.t 67) (.c (.bool false))) 90208,
 .e 69 (.copy (.t 68)) 90216,
 .g 70 (.build [(.str []), (.str [])] []) 13 69 true 90224 [],
 .g 71 (.copy (.t 11)) 13 69 true 90232 [],
 .g 72 (.call (.c (.fn 18 [])) [(.t 70), (.t 71)]) 13 69 true 90240 [],
 .g 73 (.len (.t 72)) 13 69 true 90248 [],
 .g 74 (.bin .eql (.t 73) (.c (.int .i64 0))) 13 69 true 90256 [],
 .e 75 (.pick (.t 69) (.t 74) (.c (.bool false))) 90264,
 .e 76 (.copy (.t 75)) 90272,
 .g 77 (.copy (.t 14)) 20 76 true 90280 [],
 .e 78 (.pick (.t 76) (.t 77) (.c (.bool false))) 90288,
 .e 79 (.copy (.t 78)) 90296,
 .g 80 (.load true 3 (.t 13)) 23 79 true 90304 [],
 .g 81 (.copy (.t 1)) 23 79 true 90312 [],
 .g 82 (.copy (.t 9)) 23 79 true 90320 [],
 .g 83 (.build [(.str []), (.str []), (.int .i64 0)] [(0, 1, (.t 81)), (1, 1, (.c (.str [118]))), (2, 1, (.t 82))]) 23 79 true 90328 [],
 .g 84 (.eqc false [2, 2, 1] (.t 80) (.t 83)) 23 79 true 90336 [],
 .e 85 (.pick (.t 79) (.t 84) (.c (.bool false))) 90344,
 .e 86 (.copy (.t 85)) 90352,
 .g 87 (.copy (.t 1)) 30 86 true 90360 [],
 .g 88 (.build [(.str []), (.str [])] [(0, 1, (.t 87))]) 30 86 true 90368 [],
 .g 89 (.call (.c (.fn 18 [])) [(.t 88), (.c .nils)]) 30 86 true 90376 [],
 .g 90 (.copy (.t 1)) 30 86 true 90384 [],
 .g 91 (.build [(.str []), (.str [])] [(0, 1, (.t 90))]) 30 86 true 90392 [],
 .g 92 (.bslice 2 [(.str []), (.str [])] 1 [(0, (.t 91))]) 30 86 true 90400 [],
 .g 93 (.call (.c (.fn 17 [])) [(.t 89), (.t 92)]) 30 86 true 90408 [],
 .e 94 (.pick (.t 86) (.t 93) (.c (.bool false))) 90416,
 .e 95 (.copy (.t 94)) 90424,
 .g 96 (.copy (.t 7)) 39 95 true 90432 [],
 .e 97 (.pick (.t 95) (.t 96) (.c (.bool false))) 90440,
 .e 6 (.copy (.t 97)) 90448])
 .ret)))))))))))
theorem vf7 : VF Tryd.prog 7 = some (98, vc7, [.tmp 6]) := by kernel_rfl
set_option maxHeartbeats 4000000 in
theorem xLa {xs : List RawM} (hx1 : xs.length ≤ 9223372036854775807) (hx2 : ∀ r ∈ xs, r.ok) (s : Str) {n : Int} (hn : 0 ≤ n ∧ n ≤ 4294967295) : VC Tryd.prog 7 [.sh false (xs.map encW), .str s, .int .u32 n] [] (.bool true) [] := by
  have hss := xD0
  have l1 := xNI hx1 hx2 10 (by omega)
  have n1 := xId xs 10
  have o1 : ∀ m ∈ xB5 xs 10, MsgOk m := xFi
  have s1 : ∀ m ∈ xB5 xs 10, MsgLen 8 m := xET
  generalize xB5 xs 10 = l at l1 n1 o1 s1
  by_cases h60 : s.length ≤ 60
  · have g1 : decide ((s.length : Int) > 60) = false := decide_eq_false (by omega)
    by_cases h0 : s.length = 0
    · have g2 : ((s.length : Int) == 0) = true := by rw [h0]; rfl
      refine vcs vf7 ?_
      repeat first|refine sgo ?_|refine cv0 hss ?_|refine sop ?_
      refine cndt ?_
      repeat first|refine sgo ?_|refine sop ?_
      exact xAC ⟨.inr rfl, oB rfl⟩
    · have g2 : ((s.length : Int) == 0) = false := by simpa using h0
      have hw : IntKind.i64.wrap n = n := xDE (by omega) (by omega)
      have hr : 0 ≤ Int.tmod n 1000000001 := Int.tmod_nonneg _ hn.1
      generalize hst : Int.tmod n 1000000001 = st at *
      have k0 := xFM (k := s) (l := []) (by omega) (by simp) (by simp) (by simp)
      rw [xQf] at k0
      have k0 : VC Tryd.prog 16 [.str s, .nils] [] (.agg (xHu ⟨false, false, ⟨s, [], 0⟩, s, false, 0⟩)) [] := xGj k0 (.cons (PLe.refl _) (.cons (PLe.sl (.inl ⟨rfl, rfl⟩)) .nil)) (PLe.refl _)
      have od : ∀ m ∈ l ++ [xFr], MsgOk m := fun m hm => (List.mem_append.1 hm).elim (o1 m) fun hm => by rw [List.mem_singleton.1 hm]; exact xMh
      have sd : ∀ m ∈ l ++ [xFr], MsgLen 8 m := fun m hm => (List.mem_append.1 hm).elim (s1 m) fun hm => by rw [List.mem_singleton.1 hm]; exact xO1
      have op : ∀ m ∈ l ++ [putM s st], MsgOk m := fun m hm => (List.mem_append.1 hm).elim (o1 m) fun hm => by rw [List.mem_singleton.1 hm]; exact xSC s st
      have sp : ∀ m ∈ l ++ [putM s st], MsgLen 60 m := fun m hm => (List.mem_append.1 hm).elim (fun h => xHF (s1 m h) (by decide)) fun hm => by rw [List.mem_singleton.1 hm]; exact xP1 h60 st
      have kd := xFM (k := s) (l := l ++ [xFr]) (by omega) (by rw [List.length_append]; simp; omega) od sd
      rw [xQg] at kd
      have kp := xMV (k := s) (l := l ++ [putM s st]) (by omega) (by rw [List.length_append]; simp; omega) op sp
      rw [xSi] at kp
      have v1 := xLt ⟨true, true, ⟨s, [118], st⟩, [], false, 0⟩ xHA false
      have ev : xGk ⟨true, true, ⟨s, [118], st⟩, [], false, 0⟩ xHA false = (⟨s, [118], st⟩, true) := rfl
      rw [ev] at v1
      have p1 := xCJ (s := ⟨[], []⟩) (l := l ++ [xFr]) (by rw [List.length_append]; simp; omega) od sd ⟨by simp, by simp⟩
      rw [xM0 o1] at p1
      have p2 := xCJ (s := ⟨s, []⟩) (l := []) (by simp) (by simp) (by simp) ⟨by simp only; omega, by simp⟩
      rw [xPg] at p2
      have p2 : VC Tryd.prog 18 [.agg (encS ⟨s, []⟩), .nils] [] (.sh false ([⟨s, []⟩].map encS)) [] := xGj p2 (.cons (PLe.refl _) (.cons (PLe.sl (.inl ⟨rfl, rfl⟩)) .nil)) (PLe.refl _)
      have q1 := xGv (l := [⟨s, []⟩]) (by unfold maxLen; simp)
      refine vcs vf7 ?_
      repeat first|refine sgo ?_|refine cv0 hss ?_|refine sop ?_
      refine cndf (xAA ?_)
      repeat first|refine sgo ?_|refine cf l1 ?_|refine xCE ?_|refine xBb ?_|refine cf k0 ?_|refine o_v (vaps encM [] l) ?_|refine o_v (vap encM xFr) ?_|refine o_v (vap encM (putM s st)) ?_|refine cf kd ?_|refine cf kp ?_|refine cv0 v1 ?_|refine cf p1 ?_|refine cf p2 ?_|refine cv0 q1 ?_|refine o_v (veqF ⟨false, false, ⟨s, [], 0⟩, s, false, 0⟩) ?_|refine o_v (veqF ⟨true, false, xHA, [], false, 0⟩) ?_|refine o_v (veqP ⟨s, [118], st⟩) ?_|refine sop ?_
      exact xAC ⟨.inr rfl, oB rfl⟩
  · have g1 : decide ((s.length : Int) > 60) = true := decide_eq_true (by omega)
    refine vcs vf7 ?_
    repeat first|refine sgo ?_|refine cv0 hss ?_|refine sop ?_
    refine cndt ?_
    repeat first|refine sgo ?_|refine sop ?_
    exact xAC ⟨.inr rfl, oB rfl⟩
theorem traceEnds_in (l : List (List PV)) (il : InTy (.sl [.int .u8, .int .u8, .int .u8, .int .u8, .int .u8, .int .u8]) (.sh false l)) (s : Str) (hs : s.length ≤ maxLen) (n : Int) (hn : (Lit.int .u32 n).wf = true) : VC Tryd.prog 7 [.sh false l, .str s, .int .u32 n] [] (.bool true) [] := by
  obtain ⟨xs, rfl, h1, h2⟩ := xNS il
  exact xLa h2 h1 s (by simpa [Lit.wf, IntKind.min, IntKind.max, IntKind.signed, IntKind.bits] using hn)
end Go.Proofs
