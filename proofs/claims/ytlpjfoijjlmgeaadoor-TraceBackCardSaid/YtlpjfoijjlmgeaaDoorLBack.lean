/- LBack -/
import Derived.Test.YtlpjfoijjlmgeaaDoorHc
import Derived.Test.YtlpjfoijjlmgeaaDoorPv
open Go.V Go.Pu
set_option linter.unusedVariables false
set_option linter.unusedSimpArgs false
set_option maxRecDepth 20000
namespace Go.Proofs
def vc6 := vcm Tryd.prog 6
theorem vf6 : VF Tryd.prog 6 = some (83, vc6, [.tmp 4]) := by kernel_rfl
theorem xLm {s : SpanL} (hs : s.lo.length ≤ 30 ∧ s.hi.length ≤ 30) {l : List MsgL} (h8 : ∀ m ∈ l, MsgLen 8 m) (hl : l.length ≤ 8) : SpLen 100 (xAp s l.reverse) := by
  have h0 : SpLen 30 (xAO [s]) := xBp fun x hx => by rw [List.mem_singleton] at hx; subst hx; exact hs
  have := xEo (b := 8) l.reverse 30 _ (by decide) h0 fun m hm => h8 m (List.mem_reverse.1 hm)
  refine SpLen.mono ?_ this
  rw [List.length_reverse]; omega
theorem xQ0 {α : Type} {f : α → Bool} {l : List α} {i : Nat} {x : α} (h : l[i]? = some x) : (l.take (i + 1)).any f = ((l.take i).any f || f x) := by
  rw [List.take_add_one, h, List.any_append]
  simp
set_option maxHeartbeats 4000000 in
theorem xLo {xs : List RawM} (hx1 : xs.length ≤ 9223372036854775807) (hx2 : ∀ r ∈ xs, r.ok) {b c : Nat} (hb : b < 256) (hc : c < 256) : VC Tryd.prog 6 [.sh false (xs.map encW), .agg [.int .u8 b, .int .u8 c]] [] (.bool true) [] := by
  have hss := xD0
  have l1 := xNI hx1 hx2 8 (by omega)
  have n1 := xId xs 8
  have o1 : ∀ m ∈ xB5 xs 8, MsgOk m := xFi
  have s1 : ∀ m ∈ xB5 xs 8, MsgLen 8 m := xET
  generalize xB5 xs 8 = l at l1 n1 o1 s1
  have hsp := xGQ hb hc
  have hsl := @xE9 b c
  generalize xFZ b c = sp at *
  have p1 := xCJ (s := sp) (l := l) (by omega) o1 s1 ⟨by omega, by omega⟩
  have z1 := xDG sp (r := l.reverse) (fun m hm => o1 m (List.mem_reverse.1 hm))
  rw [List.length_reverse] at z1
  have hbs := xLm hsl s1 n1
  have hfb := fun k => xLY sp o1 k
  generalize xAp sp l.reverse = bl at *
  have hbm : (bl.map encS).length = bl.length := List.length_map _
  by_cases h20 : bl.length ≤ 20
  · have g1 : decide (((bl.map encS).length : Int) > 20) = false := decide_eq_false (by omega)
    have nr : VC Tryd.prog 24 [.sh false (bl.map encS)] [] (.sh false ((xLP bl).map encT)) [] := xGP (xSX (l := bl) Sl.sh (by omega) fun s hs => ⟨by have := (hbs s hs).1; omega, by have := (hbs s hs).2; omega⟩) (xAV rfl rfl)
    have nln := xOS bl
    have nm := fun k => xOR (l := bl) (n := 100) hbs (k := k)
    generalize xLP bl = ks at *
    have hkm : (ks.map encT).length = ks.length := List.length_map _
    refine vcs vf6 ?_
    repeat first|refine sgo ?_|refine cv0 hss ?_|refine cf l1 ?_|refine cv0 hsp ?_|refine cf p1 ?_|refine sop ?_
    refine cndf (xAA ?_)
    repeat first|refine sgo ?_|refine cf nr ?_|refine sop ?_
    refine xAH (fun (g : Nat) => [(5, .bool true), (6, .sh false (l.map encM)), (7, .ptr ⟨1, 24592⟩ 1 0 0), (8, .sh false (bl.map encS)), (9, .sh false (ks.map encT)), (10, .int .i64 g)])
      (fun g => [(⟨1, 24592⟩, ⟨true, false, 2, [encS sp]⟩)]) (fun g => ks.length - g) (fun g => g ≤ ks.length) 0 xAT (Nat.zero_le _) ?_
    intro i hi
    repeat first|refine sgo ?_|refine sop ?_
    refine cnd (fun h => xAA ?_) (fun h => xAF ?_)
    · have hlt : i < ks.length := by have h' := of_decide_eq_true h; omega
      obtain ⟨k, hk⟩ : ∃ k, ks[i]? = some k := ⟨_, List.getElem?_eq_getElem hlt⟩
      have hke := gm (enc := encT) (n := (i : Int)) hk (by omega)
      have hlt2 : (i : Int) < ((ks.map encT).length : Nat) := by omega
      have hkl := nm k (List.mem_of_getElem? hk)
      have htab : TabOk 1 102 [⟨k, [104, 101, 114, 101], 1⟩] := ⟨List.pairwise_singleton _ _, by simp, fun p hp => by rw [List.mem_singleton.1 hp]; simp only; omega⟩
      have al := xRm (l := l) htab (by decide) (by decide) (by omega) o1 s1
      have atb := xLq l htab (Nat.le_refl _) (by decide) s1
      have hf := hfb k
      unfold xOs at hf
      generalize allT [⟨k, [104, 101, 114, 101], 1⟩] l = t at *
      have htl : t.length ≤ 1000 := Nat.le_trans atb.l (Nat.le_trans (xRC n1) (by decide))
      have rg1 : VC Tryd.prog 25 [.sh false (t.map encP), .agg (encS sp)] [] (.sh false ((xA8 t sp).map encP)) [] := xJr (xNi sp Sl.sh (by omega))
      have hrl : (xA8 t sp).length ≤ 1000 := Nat.le_trans (List.length_filter_le ..) htl
      have hrk : ∀ p ∈ xA8 t sp, p.key.length ≤ 1000 := fun p hp => by
        have := atb.k p (List.mem_filter.1 hp).1
        omega
      generalize xA8 t sp = r at *
      have hrm : (r.map encP).length = r.length := List.length_map _
      have i1 := xQj (q := .sh false (bl.map encS)) (l := bl) k Sl.sh (by unfold maxLen; omega)
      repeat first|refine sgo ?_|refine cf al ?_|refine cf rg1 ?_|refine sop ?_
      refine xAH (fun (g : Nat × Bool) => [(5, .bool true), (6, .sh false (l.map encM)), (7, .ptr ⟨1, 24592⟩ 1 0 0), (8, .sh false (bl.map encS)), (9, .sh false (ks.map encT)), (10, .int .i64 i), (11, .str k), (12, .sh false (r.map encP)), (13, .bool g.2), (14, .int .i64 g.1)])
        (fun g => [(⟨1, 24592⟩, ⟨true, false, 2, [encS sp]⟩)]) (fun g => r.length - g.1) (fun g => g.1 ≤ r.length ∧ g.2 = (r.take g.1).any fun p => !(keyL p.key l).known && (keyL p.key l).key == k) (0, false) xAT ⟨Nat.zero_le _, by simp⟩ ?_
      rintro ⟨j, fd⟩ ⟨hj, hfd⟩
      dsimp only at hj hfd ⊢
      repeat first|refine sgo ?_|refine sop ?_
      refine cnd (fun h2 => xAA ?_) (fun h2 => xAF ?_)
      · have hlj : j < r.length := by have h' := of_decide_eq_true h2; omega
        obtain ⟨p, hp⟩ : ∃ p, r[j]? = some p := ⟨_, List.getElem?_eq_getElem hlj⟩
        have hpe := gm (enc := encP) (n := (j : Int)) hp (by omega)
        have hlj2 : (j : Int) < ((r.map encP).length : Nat) := by omega
        have kp := xFM (k := p.key) (l := l) (by have := hrk p (List.mem_of_getElem? hp); omega) (by omega) o1 s1
        have hst := xQ0 (f := fun p => !(keyL p.key l).known && (keyL p.key l).key == k) hp
        rw [← hfd] at hst
        generalize keyL p.key l = f at *
        obtain ⟨kn, fh, fp, fk, fs, fst⟩ := f
        dsimp only at hst
        cases fd with
        | true =>
          repeat first|refine sgo ?_|refine cv0 kp ?_|refine sop ?_
          exact agn (Q := fun _ _ => True) (j + 1, true) ⟨by simp only; omega, by simp only [hst, Bool.true_or]⟩ xAT
        | false =>
          cases kn with
          | true =>
            repeat first|refine sgo ?_|refine cv0 kp ?_|refine sop ?_
            exact agn (Q := fun _ _ => True) (j + 1, false) ⟨by simp only; omega, by simp only [hst]; rfl⟩ xAT
          | false =>
            repeat first|refine sgo ?_|refine cv0 kp ?_|refine sop ?_
            exact agn (Q := fun _ _ => True) (j + 1, fk == k) ⟨by simp only; omega, by simp only [hst]; simp⟩ xAT
      · have hge : j = r.length := by have h' := of_decide_eq_false h2; omega
        subst hge
        rw [List.take_length, hf] at hfd
        subst hfd
        repeat first|refine sgo ?_|refine cv0 i1 ?_|refine o_v (veqB (inL bl k)) ?_|refine sop ?_
        refine cndf (xAA ?_)
        repeat first|refine sgo ?_|refine sop ?_
        exact agn (Q := fun _ _ => True) (i + 1) (by omega) xAT
    · repeat first|refine sgo ?_|refine sop ?_
      exact xAC ⟨.inr rfl, oB rfl⟩
  · have g1 : decide (((bl.map encS).length : Int) > 20) = true := decide_eq_true (by omega)
    have g2 : decide (((bl.map encS).length : Int) ≤ 400) = true := decide_eq_true (by omega)
    refine vcs vf6 ?_
    repeat first|refine sgo ?_|refine cv0 hss ?_|refine cf l1 ?_|refine cv0 hsp ?_|refine cf p1 ?_|refine sop ?_
    refine cndt ?_
    repeat first|refine sgo ?_|refine sop ?_
    exact xAC ⟨.inr rfl, oB rfl⟩
theorem traceBack_in (l : List (List PV)) (il : InTy (.sl [.int .u8, .int .u8, .int .u8, .int .u8, .int .u8, .int .u8]) (.sh false l)) (w : List PV) (nw : w.length = [CTy.int .u8, .int .u8].length) (iw : ∀ (j : Nat) (c : CTy) (p : PV), [CTy.int .u8, .int .u8][j]? = some c → w[j]? = some p → InTy c p) : VC Tryd.prog 6 [.sh false l, .agg w] [] (.bool true) [] := by
  obtain ⟨xs, rfl, h1, h2⟩ := xNS il
  obtain ⟨a, b, rfl, ha, hb⟩ := dec2 nw iw
  exact xLo h2 h1 ha hb
end Go.Proofs
