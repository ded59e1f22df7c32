/- LReads -/
import Derived.Test.YtlpjfoijjlmgeaaGreatDoorHc
import Derived.Test.YtlpjfoijjlmgeaaGreatDoorPu
open Go.V Go.Pu
set_option linter.unusedVariables false
set_option linter.unusedSimpArgs false
set_option maxRecDepth 20000
namespace Go.Proofs
def vc4 : VCode :=
 (.seq
 (.region 0 false [
 .e 6 (.copy (.c (.bool false))) 0])
 (.seq
 (.region 1 false [
 .e 20 (.call (.c (.fn 5 [])) []) 8192,
 .e 7 (.copy (.t 20)) 8200])
 (.seq
 (.seq
 (.region 2 false [
 .e 21 (.copy (.t 2)) 16384,
 .e 22 (.lenS (.t 21)) 16392,
 .e 23 (.bin .gtr (.t 22) (.c (.int .i64 60))) 16400])
 (.cond (.t 23)
 (.seq
 (.region 3 false [
 .e 24 (.copy (.t 7)) 24576,
 .e 6 (.copy (.t 24)) 24584])
 .ret)
 .skip))
 (.seq
 (.region 4 false [
 .e 25 (.copy (.t 0)) 32768,
 .e 26 (.call (.c (.fn 6 [])) [(.t 25)]) 32776,
 .e 27 (.copy (.t 1)) 32784,
 .e 28 (.call (.c (.fn 7 [])) [(.t 27), (.c (.int .i64 10))]) 32792,
 .e 8 (.copy (.t 26)) 32800,
 .e 9 (.copy (.t 28)) 32808])
 (.seq
 (.region 5 false [
 .e 29 (.copy (.t 8)) 40960,
 .e 30 (.copy (.t 9)) 40968,
 .e 31 (.call (.c (.fn 14 [])) [(.t 29), (.t 30)]) 40976,
 .e 10 (.copy (.t 31)) 40984])
 (.seq
 (.seq
 (.region 6 false [
 .e 11 (.copy (.c (.int .i64 0))) 49152])
 (.block 0
 (.loop
 (.seq
 (.seq
 (.region 7 false [
 .e 32 (.copy (.t 11)) 57344,
 .e 33 (.bin .lss (.t 32) (.c (.int .i64 25))) 57352])
 (.cond (.t 33)
 .skip
 (.exit 0)))
 (.seq
 (.block 1
 (.seq
 (.region 9 false [
 .e 36 (.copy (.t 2)) 73728,
 .e 12 (.copy (.t 36)) 73736])
 (.seq
 (.seq
 (.region 10 false [
 .e 37 (.copy (.t 11)) 81920,
 .e 38 (.bin .lss (.t 37) (.c (.int .i64 24))) 81928])
 (.cond (.t 38)
 (.region 11 false [
 .e 39 (.copy (.t 11)) 90112,
 .e 40 (.conv .u8 (.t 39)) 90120,
 .e 41 (.call (.c (.fn 15 [])) [(.t 40)]) 90128,
 .e 12 (.copy (.t 41)) 90136])
 .skip))
 (.seq
 (.region 12 false [
 .e 42 (.copy (.t 12)) 98304,
 .e 43 (.copy (.t 9)) 98312,
 .e 44 (.call (.c (.fn 16 [])) [(.t 42), (.t 43)]) 98320,
 .e 13 (.alloc [(.bool false), (.bool false), (.str []), (.str []), (.int .i64 0), (.str []), (.bool false), (.int .i64 0)]) 98328,
 .h (.store 8 (.t 13) (.t 44)) 98336 []])
 (.seq
 (.region 13 false [
 .e 46 (.copy (.t 8)) 106496,
 .e 47 (.faddr 5 (.t 13)) 106504,
 .e 48 (.load false 1 (.t 47)) 106512,
 .e 49 (.call (.c (.fn 17 [])) [(.t 46), (.t 48)]) 106520,
 .e 45 (.copy (.t 49)) 106528,
 .e 50 (.extract (.t 45) 0) 106536,
 .e 51 (.extract (.t 45) 1) 106544,
 .e 14 (.alloc [(.str []), (.str []), (.int .i64 0)]) 106552,
 .h (.store 3 (.t 14) (.t 50)) 106560 [],
 .e 15 (.copy (.t 51)) 106568])
 (.seq
 (.region 14 false [
 .e 53 (.load true 8 (.t 13)) 114688,
 .e 54 (.load true 3 (.t 14)) 114696,
 .e 55 (.copy (.t 15)) 114704,
 .e 56 (.call (.c (.fn 18 [])) [(.t 53), (.t 54), (.t 55)]) 114712,
 .e 52 (.copy (.t 56)) 114720,
 .e 57 (.extract (.t 52) 0) 114728,
 .e 58 (.extract (.t 52) 1) 114736,
 .e 16 (.alloc [(.str []), (.str []), (.int .i64 0)]) 114744,
 .h (.store 3 (.t 16) (.t 57)) 114752 [],
 .e 17 (.copy (.t 58)) 114760])
 (.seq
 (.region 15 false [
 .e 60 (.copy (.t 10)) 122880,
 .e 61 (.copy (.t 12)) 122888,
 .e 62 (.call (.c (.fn 17 [])) [(.t 60), (.t 61)]) 122896,
 .e 59 (.copy (.t 62)) 122904,
 .e 63 (.extract (.t 59) 0) 122912,
 .e 64 (.extract (.t 59) 1) 122920,
 .e 18 (.alloc [(.str []), (.str []), (.int .i64 0)]) 122928,
 .h (.store 3 (.t 18) (.t 63)) 122936 [],
 .e 19 (.copy (.t 64)) 122944])
 (.seq
 (.region 16 false [
 .e 65 (.copy (.t 17)) 131072,
 .e 66 (.copy (.t 19)) 131080,
 .e 67 (.eqb true (.t 65) (.t 66)) 131088,
 .e 68 (.copy (.t 67)) 131096,
 .g 69 (.load true 3 (.t 16)) 3 68 false 131104 [],
 .g 70 (.load true 3 (.t 18)) 3 68 false 131112 [],
 .g 71 (.eqc true [2, 2, 1] (.t 69) (.t 70)) 3 68 false 131120 [],
 .e 72 (.pick (.t 68) (.c (.bool true)) (.t 71)) 131128])
 (.cond (.t 72)
 (.seq
 (.region 17 false [
 .e 6 (.copy (.c (.bool false))) 139264])
 .ret)
 .skip)))))))))
 (.region 8 false [
 .e 34 (.copy (.t 11)) 65536,
 .e 35 (.bin .add (.t 34) (.c (.int .i64 1))) 65544,
 .e 11 (.copy (.t 35)) 65552]))))))
 (.seq
 (.region 18 false [
 .e 73 (.copy (.t 7)) 147456,
 .e 6 (.copy (.t 73)) 147464])
 .ret)))))))
theorem vf4 : VF Tryz.prog 4 = some (74, vc4, [.tmp 6]) := by kernel_rfl
set_option maxHeartbeats 4000000 in
theorem xJg (ts : List RawL) {xs : List RawM} (hx1 : xs.length ≤ 9223372036854775807) (hx2 : ∀ r ∈ xs, r.ok) (s : Str) : VC Tryz.prog 4 [.sh false (ts.map encR), .sh false (xs.map encW), .str s] [] (.bool true) [] := by
  have hss := xJb
  have l1 := listC hx1 hx2 10 (by omega)
  have n1 := xRN xs 10
  have o1 : ∀ m ∈ xD9 xs 10, MsgOk m := xOb
  have s1 : ∀ m ∈ xD9 xs 10, MsgLen 8 m := xL6
  generalize xD9 xs 10 = l at l1 n1 o1 s1
  have m1 := xSn ts
  have t1 := xG6 ts
  generalize xGJ ts = x at m1 t1
  by_cases h60 : s.length ≤ 60
  · have g1 : decide ((s.length : Int) > 60) = false := decide_eq_false (by omega)
    have al := xPT (l := l) (t := x) (N := 40) (B := 20) (n := 10) t1 (by decide) (by decide) n1 (by decide) (by decide) o1 s1
    have t2 := xRt (l := l) (n := 10) t1 (by decide) (by decide) n1 (by decide) s1
    have rl := fun k => xNx (l := l) t1.s o1 k
    generalize allT x l = y at *
    have y1 : y.length ≤ 49000000 := Nat.le_trans t2.l (by decide)
    have x1 := t1.l
    refine vcs vf4 ?_
    repeat first|refine sgo ?_|refine cv0 hss ?_|refine sop ?_
    refine cndf (xAB ?_)
    repeat first|refine sgo ?_|refine cf m1 ?_|refine cf l1 ?_|refine cf al ?_|refine sop ?_
    refine xAK (fun (g : Nat) => [(2, .str s), (7, .bool true), (8, .sh false (x.map encP)), (9, .sh false (l.map encM)), (10, .sh false (y.map encP)), (11, .int .i64 g)]) (fun _ => []) (fun g => 25 - g) (fun g => g ≤ 25) 0 xA7 (Nat.zero_le _) ?_
    intro i hi
    repeat first|refine sgo ?_|refine sop ?_
    refine cnd (fun h => xAB ?_) (fun h => xAE ?_)
    · have hlt : i < 25 := by have h' := of_decide_eq_true h; omega
      refine xBH (xA3 (xBH (rg ?_)))
      repeat first|refine xAm ?_|refine sop ?_
      refine nl ?_
      refine xB0 (lvl := 1) (fun (k : Str) => [(2, .str s), (7, .bool true), (8, .sh false (x.map encP)), (9, .sh false (l.map encM)), (10, .sh false (y.map encP)), (11, .int .i64 i), (12, .str k)]) (fun _ => []) (fun k => k.length ≤ 60) ?_ ?_
      · repeat first|refine sgo ?_|refine sop ?_
        refine cnd (fun h2 => ?_) (fun h2 => xAB ?_)
        · have h2' : i < 24 := by have h' := of_decide_eq_true h2; omega
          have hw : IntKind.u8.wrap (i : Int) = (i : Int) := wrap8 (by omega)
          have hk := xId (n := i) (by omega)
          have hkl := xFG i
          repeat first|refine sgo ?_|refine xBZ ?_|refine cv0 hk ?_|refine sop ?_
          exact mid0 (keyT i) (by omega) xA7
        · exact mid0 s h60 xA7
      · intro k hk
        have rk := rl k
        have kk := xRR (k := k) (l := l) (by omega) (by omega) o1 s1
        have f1 := xLT (q := .sh false (x.map encP)) (t := x) (keyL k l).key t1.s Sl.sh (by omega)
        have f2 := xLT (q := .sh false (y.map encP)) (t := y) k t2.s Sl.sh (by omega)
        have v1 := xPY (keyL k l) ((xAH x (keyL k l).key).getD zP) (xAH x (keyL k l).key).isSome
        have rk : xLP (keyL k l) ((xAH x (keyL k l).key).getD zP) (xAH x (keyL k l).key).isSome = ((xAH y k).getD zP, (xAH y k).isSome) := rk
        rw [rk] at v1
        simp only at v1
        generalize (xAH x (keyL k l).key).getD zP = p at *
        generalize (xAH x (keyL k l).key).isSome = ph at *
        generalize (xAH y k).getD zP = w at *
        generalize (xAH y k).isSome = wh at *
        generalize keyL k l = f at *
        obtain ⟨kn, fh, fp, fk, fs, fst⟩ := f
        simp only at f1
        repeat first|refine sgo ?_|refine cv0 kk ?_|refine cv0 f1 ?_|refine cv0 v1 ?_|refine cv0 f2 ?_|refine o_v (veqB wh) ?_|refine o_v (veqP w) ?_|refine sop ?_
        refine cndf (xAB ?_)
        repeat first|refine sgo ?_|refine sop ?_
        exact agn (Q := fun _ _ => True) (i + 1) (by omega) xA7
    · repeat first|refine sgo ?_|refine sop ?_
      exact xAC ⟨.inr rfl, oB rfl⟩
  · have g1 : decide ((s.length : Int) > 60) = true := decide_eq_true (by omega)
    refine vcs vf4 ?_
    repeat first|refine sgo ?_|refine cv0 hss ?_|refine sop ?_
    refine cndt ?_
    repeat first|refine sgo ?_|refine sop ?_
    exact xAC ⟨.inr rfl, oB rfl⟩
theorem traceReads_in (t : List (List PV)) (it : InTy (.sl [.int .u8, .int .u8, .int .u8]) (.sh false t)) (l : List (List PV)) (il : InTy (.sl [.int .u8, .int .u8, .int .u8, .int .u8, .int .u8, .int .u8]) (.sh false l)) (s : Str) (hs : s.length ≤ maxLen) : VC Tryz.prog 4 [.sh false t, .sh false l, .str s] [] (.bool true) [] := by
  obtain ⟨ts, rfl, _⟩ := decR it
  obtain ⟨xs, rfl, h1, h2⟩ := decWs il
  exact xJg ts h2 h1 s
end Go.Proofs
