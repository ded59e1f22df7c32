/- LSpans -/
import Derived.Test.YtlpjfoijjlmgeaaDoorHc
import Derived.Test.YtlpjfoijjlmgeaaDoorPv
open Go.V Go.Pu
set_option linter.unusedVariables false
set_option linter.unusedSimpArgs false
set_option maxRecDepth 20000
namespace Go.Proofs
def vc5 := vcm Tryd.prog 5
theorem vf5 : VF Tryd.prog 5 = some (66, vc5, [.tmp 6]) := by kernel_rfl
set_option maxHeartbeats 4000000 in
theorem xJ1 {xs : List RawM} (hx1 : xs.length ≤ 9223372036854775807) (hx2 : ∀ r ∈ xs, r.ok) {a b c : Nat} (ha : a < 256) (hb : b < 256) (hc : c < 256) (s : Str) : VC Tryd.prog 5 [.sh false (xs.map encW), .agg [.int .u8 a, .int .u8 b, .int .u8 c], .str s] [] (.bool true) [] := by
  have hss := xD0
  have l1 := xNI hx1 hx2 10 (by omega)
  have n1 := xId xs 10
  have o1 : ∀ m ∈ xB5 xs 10, MsgOk m := xFi
  have s1 : ∀ m ∈ xB5 xs 10, MsgLen 8 m := xET
  generalize xB5 xs 10 = l at l1 n1 o1 s1
  have hk := xK1 ha s
  have hsp := xGQ hb hc
  have hsl := @xE9 b c
  by_cases h60 : s.length ≤ 60
  · have g1 : decide ((s.length : Int) > 60) = false := decide_eq_false (by omega)
    have hkl := @xJZ a s h60
    generalize keyW a s = k at *
    generalize xFZ b c = sp at *
    have pk := xFM (k := k) (l := l) (by omega) (by omega) o1 s1
    have p1 := xCJ (s := sp) (l := l) (by omega) o1 s1 ⟨by omega, by omega⟩
    have z1 := xDG sp (r := l.reverse) (fun m hm => o1 m (List.mem_reverse.1 hm))
    rw [List.length_reverse] at z1
    have q1 := xGv (l := xAp sp l.reverse) (by unfold maxLen; omega)
    have rn : VC Tryd.prog 20 [.sh false ((xAp sp l.reverse).map encS)] [] (.sh false ((xAO (xAp sp l.reverse)).map encS)) [] := xF1 (xEP (l := xAp sp l.reverse) Sl.sh (by omega))
    rw [xIP (xGw _ _)] at rn
    have hh := xI9 sp k
    have cl := xPG (l := l) (by omega)
    have i1 := xQj (q := .sh false ((xAp sp l.reverse).map encS)) (l := xAp sp l.reverse) (keyL k l).key Sl.sh (by unfold maxLen; omega)
    have hin := xSh (l := l) o1 sp (k := k)
    have hout := xQe (l := l) o1 sp (k := k)
    generalize xAp sp l.reverse = bl at *
    generalize keyL k l = f at *
    obtain ⟨kn, fh, fp, fk, fs, fst⟩ := f
    simp only at hin hout i1
    refine vcs vf5 ?_
    repeat first|refine sgo ?_|refine cv0 hss ?_|refine sop ?_
    refine cndf (xAA ?_)
    repeat first|refine sgo ?_|refine cf l1 ?_|refine cv0 hk ?_|refine cv0 hsp ?_|refine cf p1 ?_|refine cf rn ?_|refine cv0 q1 ?_|refine sop ?_
    refine cndf (xAA ?_)
    cases kn with
    | true =>
      repeat first|refine sgo ?_|refine cv0 pk ?_|refine sop ?_
      refine cndt ?_
      repeat first|refine sgo ?_|refine sop ?_
      exact xAC ⟨.inr rfl, oB rfl⟩
    | false =>
      cases hhk : hasL sp k with
      | true =>
        rw [hhk] at hh
        rw [hin rfl hhk] at i1
        repeat first|refine sgo ?_|refine cv0 pk ?_|refine sop ?_
        refine cndf (xAA ?_)
        repeat first|refine sgo ?_|refine cv0 hh ?_|refine sop ?_
        refine cndt ?_
        repeat first|refine sgo ?_|refine cv0 i1 ?_|refine sop ?_
        exact xAC ⟨.inr rfl, oB rfl⟩
      | false =>
        rw [hhk] at hh
        cases hcl : l.any fun m => m.kind == 5 with
        | true =>
          rw [hcl] at cl
          repeat first|refine sgo ?_|refine cv0 pk ?_|refine sop ?_
          refine cndf (xAA ?_)
          repeat first|refine sgo ?_|refine cv0 hh ?_|refine sop ?_
          refine cndf (xAA ?_)
          repeat first|refine sgo ?_|refine cv0 cl ?_|refine sop ?_
          exact xAC ⟨.inr rfl, oB rfl⟩
        | false =>
          rw [hcl] at cl
          rw [hout rfl hhk hcl] at i1
          repeat first|refine sgo ?_|refine cv0 pk ?_|refine sop ?_
          refine cndf (xAA ?_)
          repeat first|refine sgo ?_|refine cv0 hh ?_|refine sop ?_
          refine cndf (xAA ?_)
          repeat first|refine sgo ?_|refine cv0 cl ?_|refine cv0 i1 ?_|refine sop ?_
          exact xAC ⟨.inr rfl, oB rfl⟩
  · have g1 : decide ((s.length : Int) > 60) = true := decide_eq_true (by omega)
    refine vcs vf5 ?_
    repeat first|refine sgo ?_|refine cv0 hss ?_|refine sop ?_
    refine cndt ?_
    repeat first|refine sgo ?_|refine sop ?_
    exact xAC ⟨.inr rfl, oB rfl⟩
theorem traceSpans_in (l : List (List PV)) (il : InTy (.sl [.int .u8, .int .u8, .int .u8, .int .u8, .int .u8, .int .u8]) (.sh false l)) (w : List PV) (nw : w.length = [CTy.int .u8, .int .u8, .int .u8].length) (iw : ∀ (j : Nat) (c : CTy) (p : PV), [CTy.int .u8, .int .u8, .int .u8][j]? = some c → w[j]? = some p → InTy c p) (s : Str) (hs : s.length ≤ maxLen) : VC Tryd.prog 5 [.sh false l, .agg w, .str s] [] (.bool true) [] := by
  obtain ⟨xs, rfl, h1, h2⟩ := xNS il
  obtain ⟨a, b, c, rfl, ha, hb, hc⟩ := dec3 nw iw
  exact xJ1 h2 h1 ha hb hc s
end Go.Proofs
