/- LParts -/
import Derived.Test.YtlpjfoijjlmgeaaDoorHc
import Derived.Test.YtlpjfoijjlmgeaaDoorPv
open Go.V Go.Pu
set_option linter.unusedVariables false
set_option linter.unusedSimpArgs false
set_option maxRecDepth 20000
namespace Go.Proofs
def vc4 : VCode :=
 (.seq
 (.region 0 false [
 .e 3 (.box (.t 0)) 0,
 .e 4 (.box (.t 1)) 8,
 .e 6 (.copy (.c (.bool false))) 16])
 (.seq
 (.region 1 false [
 .e 20 (.call (.c (.fn 8 [])) []) 8192,
 .e 7 (.copy (.t 20)) 8200])
 (.seq
 (.seq
 (.region 2 false [
 .e 21 (.copy (.t 2)) 16384,
 .e 22 (.lenS (.t 21)) 16392,
 .e 23 (.bin .gtr (.t 22) (.c (.int .i64 60))) 16400])
 (.cond (.t 23)
 (.seq
 (.region 3 false [
 .e 24 (.copy (.t 7)) 24576,
 .e 6 (.copy (.t 24)) 24584])
 .ret)
 .skip))
 (.seq
 (.region 4 true [
 .e 25 (.iaddrA 2 1 (.t 3) (.c (.int .i64 0))) 32768,
 .f 26 (.load false 1 (.t 25)) 32776 [0],
 .f 27 (.call (.c (.fn 9 [])) [(.t 26), (.c (.int .i64 6))]) 32784 [1, 0],
 .e 28 (.iaddrA 2 1 (.t 3) (.c (.int .i64 1))) 32792,
 .f 29 (.load false 1 (.t 28)) 32800 [3],
 .f 30 (.call (.c (.fn 9 [])) [(.t 29), (.c (.int .i64 6))]) 32808 [4, 3, 2, 1, 0],
 .e 31 (.iaddrA 3 1 (.t 4) (.c (.int .i64 0))) 32816,
 .f 32 (.load false 1 (.t 31)) 32824 [6],
 .e 33 (.copy (.t 2)) 32832,
 .f 34 (.call (.c (.fn 10 [])) [(.t 32), (.t 33)]) 32840 [7, 6, 8, 5, 4, 3, 2, 1, 0],
 .f 8 (.copy (.t 27)) 32848 [2, 1, 0, 9, 7, 6, 8, 5, 4, 3],
 .f 9 (.copy (.t 30)) 32856 [5, 4, 3, 2, 1, 0, 10, 9, 7, 6, 8],
 .f 10 (.copy (.t 34)) 32864 [9, 7, 6, 8, 5, 4, 3, 2, 1, 0, 11, 10]])
 (.seq
 (.region 5 false [
 .e 35 (.bslice 8 [(.int .i64 0), (.str []), (.str []), (.str []), (.str []), (.str []), (.str []), (.int .i64 0)] 0 []) 40960,
 .e 36 (.copy (.t 8)) 40968,
 .e 37 (.append 8 112 [(.int .i64 0), (.str []), (.str []), (.str []), (.str []), (.str []), (.str []), (.int .i64 0)] (.t 35) (.t 36)) 40976,
 .e 11 (.copy (.t 37)) 40984])
 (.seq
 (.region 6 false [
 .e 38 (.copy (.t 11)) 49152,
 .e 39 (.copy (.t 9)) 49160,
 .e 40 (.append 8 112 [(.int .i64 0), (.str []), (.str []), (.str []), (.str []), (.str []), (.str []), (.int .i64 0)] (.t 38) (.t 39)) 49168,
 .e 11 (.copy (.t 40)) 49176])
 (.seq
 (.region 7 false [
 .e 41 (.copy (.t 10)) 57344,
 .e 42 (.copy (.t 11)) 57352,
 .e 43 (.call (.c (.fn 16 [])) [(.t 41), (.t 42)]) 57360,
 .e 44 (.copy (.t 10)) 57368,
 .e 45 (.copy (.t 9)) 57376,
 .e 46 (.call (.c (.fn 16 [])) [(.t 44), (.t 45)]) 57384,
 .e 12 (.alloc [(.bool false), (.bool false), (.str []), (.str []), (.int .i64 0), (.str []), (.bool false), (.int .i64 0)]) 57392,
 .e 13 (.alloc [(.bool false), (.bool false), (.str []), (.str []), (.int .i64 0), (.str []), (.bool false), (.int .i64 0)]) 57400,
 .h (.store 8 (.t 12) (.t 43)) 57408 [],
 .h (.store 8 (.t 13) (.t 46)) 57416 []])
 (.seq
 (.region 8 false [
 .e 47 (.load true 8 (.t 13)) 65536,
 .e 14 (.alloc [(.bool false), (.bool false), (.str []), (.str []), (.int .i64 0), (.str []), (.bool false), (.int .i64 0)]) 65544,
 .h (.store 8 (.t 14) (.t 47)) 65552 []])
 (.seq
 (.seq
 (.region 9 false [
 .e 48 (.faddr 0 (.t 13)) 73728,
 .e 49 (.load false 1 (.t 48)) 73736,
 .e 50 (.not (.t 49)) 73744])
 (.cond (.t 50)
 (.seq
 (.region 10 false [
 .e 51 (.faddr 5 (.t 13)) 81920,
 .e 52 (.load false 1 (.t 51)) 81928,
 .e 53 (.copy (.t 8)) 81936,
 .e 54 (.call (.c (.fn 16 [])) [(.t 52), (.t 53)]) 81944,
 .e 15 (.alloc [(.bool false), (.bool false), (.str []), (.str []), (.int .i64 0), (.str []), (.bool false), (.int .i64 0)]) 81952,
 .h (.store 8 (.t 15) (.t 54)) 81960 []])
 (.seq
 (.region 11 false [
 .e 55 (.load true 8 (.t 15)) 90112,
 .h (.store 8 (.t 14) (.t 55)) 90120 []])
 (.seq
 (.seq
 (.region 12 false [
 .e 56 (.faddr 0 (.t 15)) 98304,
 .e 57 (.load false 1 (.t 56)) 98312,
 .e 58 (.not (.t 57)) 98320,
 .e 59 (.copy (.t 58)) 98328,
 .g 60 (.faddr 1 (.t 15)) 3 59 false 98336 [],
 .g 61 (.load false 1 (.t 60)) 3 59 false 98344 [],
 .e 62 (.pick (.t 59) (.c (.bool true)) (.t 61)) 98352])
 (.cond (.t 62)
 (.region 13 false [
 .e 63 (.copy (.t 10)) 106496,
 .e 64 (.faddr 2 (.t 14)) 106504,
 .e 65 (.faddr 0 (.t 64)) 106512,
 .h (.store 1 (.t 65) (.t 63)) 106520 []])
 .skip))
 (.seq
 (.seq
 (.region 14 false [
 .e 66 (.faddr 0 (.t 15)) 114688,
 .e 67 (.load false 1 (.t 66)) 114696,
 .e 68 (.not (.t 67)) 114704,
 .e 69 (.copy (.t 68)) 114712,
 .g 70 (.faddr 6 (.t 13)) 3 69 true 114720 [],
 .g 71 (.load false 1 (.t 70)) 3 69 true 114728 [],
 .e 72 (.pick (.t 69) (.t 71) (.c (.bool false))) 114736])
 (.cond (.t 72)
 (.region 15 true [
 .e 73 (.faddr 7 (.t 13)) 122880,
 .f 74 (.load false 1 (.t 73)) 122888 [0],
 .e 75 (.faddr 6 (.t 14)) 122896,
 .h (.store 1 (.t 75) (.c (.bool true))) 122904 [2],
 .f 76 (.faddr 7 (.t 14)) 122912 [0, 1, 2, 3],
 .h (.store 1 (.t 76) (.t 74)) 122920 [4, 0, 1, 2, 3]])
 .skip))
 (.seq
 (.region 16 false [
 .e 77 (.faddr 1 (.t 15)) 131072,
 .e 78 (.load false 1 (.t 77)) 131080,
 .e 79 (.copy (.t 78)) 131088,
 .g 80 (.faddr 6 (.t 13)) 2 79 true 131096 [],
 .g 81 (.load false 1 (.t 80)) 2 79 true 131104 [],
 .e 82 (.pick (.t 79) (.t 81) (.c (.bool false))) 131112])
 (.cond (.t 82)
 (.region 17 false [
 .e 83 (.faddr 7 (.t 13)) 139264,
 .e 84 (.load false 1 (.t 83)) 139272,
 .e 85 (.faddr 2 (.t 14)) 139280,
 .e 86 (.faddr 2 (.t 85)) 139288,
 .h (.store 1 (.t 86) (.t 84)) 139296 []])
 .skip))))))
 .skip))
 (.seq
 (.seq
 (.region 18 false [
 .e 87 (.load true 8 (.t 12)) 147456,
 .e 88 (.load true 8 (.t 14)) 147464,
 .e 89 (.eqc true [0, 0, 2, 2, 1, 2, 0, 1] (.t 87) (.t 88)) 147472])
 (.cond (.t 89)
 (.seq
 (.region 19 false [
 .e 6 (.copy (.c (.bool false))) 155648])
 .ret)
 .skip))
 (.seq
 (.region 20 false [
 .e 90 (.iaddrA 3 1 (.t 4) (.c (.int .i64 1))) 163840,
 .e 91 (.load false 1 (.t 90)) 163848,
 .e 92 (.iaddrA 3 1 (.t 4) (.c (.int .i64 2))) 163856,
 .e 93 (.load false 1 (.t 92)) 163864,
 .e 94 (.build [(.int .u8 0), (.int .u8 0)] [(0, 1, (.t 91)), (1, 1, (.t 93))]) 163872,
 .e 95 (.call (.c (.fn 11 [])) [(.t 94)]) 163880,
 .e 16 (.alloc [(.str []), (.str [])]) 163888,
 .h (.store 2 (.t 16) (.t 95)) 163896 []])
 (.seq
 (.region 21 false [
 .e 96 (.load true 2 (.t 16)) 172032,
 .e 97 (.copy (.t 9)) 172040,
 .e 98 (.call (.c (.fn 18 [])) [(.t 96), (.t 97)]) 172048,
 .e 17 (.copy (.t 98)) 172056])
 (.seq
 (.seq
 (.region 22 false [
 .e 99 (.copy (.t 17)) 180224,
 .e 100 (.len (.t 99)) 180232,
 .e 101 (.bin .gtr (.t 100) (.c (.int .i64 400))) 180240])
 (.cond (.t 101)
 (.seq
 (.region 23 false [
 .e 6 (.copy (.c (.bool false))) 188416])
 .ret)
 .skip))
 (.seq
 (.region 24 false [
 .e 102 (.bslice 2 [(.str []), (.str [])] 0 []) 196608,
 .e 18 (.copy (.t 102)) 196616])
 (.seq
 (.seq
 (.region 25 false [
 .e 19 (.copy (.c (.int .i64 0))) 204800])
 (.block 0
 (.loop
 (.seq
 (.seq
 (.region 26 false [
 .e 103 (.copy (.t 19)) 212992,
 .e 104 (.copy (.t 17)) 213000,
 .e 105 (.len (.t 104)) 213008,
 .e 106 (.bin .lss (.t 103) (.t 105)) 213016])
 (.cond (.t 106)
 .skip
 (.exit 0)))
 (.seq
 (.block 1
 (.region 28 false [
 .e 109 (.copy (.t 18)) 229376,
 .e 110 (.copy (.t 17)) 229384,
 .e 111 (.copy (.t 19)) 229392,
 .e 112 (.iaddr 2 (.t 110) (.t 111)) 229400,
 .e 113 (.load true 2 (.t 112)) 229408,
 .e 114 (.copy (.t 8)) 229416,
 .e 115 (.call (.c (.fn 18 [])) [(.t 113), (.t 114)]) 229424,
 .e 116 (.append 2 32 [(.str []), (.str [])] (.t 109) (.t 115)) 229432,
 .e 18 (.copy (.t 116)) 229440]))
 (.region 27 false [
 .e 107 (.copy (.t 19)) 221184,
 .e 108 (.bin .add (.t 107) (.c (.int .i64 1))) 221192,
 .e 19 (.copy (.t 108)) 221200]))))))
 (.seq
 (.region 29 false [
 .e 117 (.load true 2 (.t 16)) 237568,
 .e 118 (.copy (.t 11)) 237576,
 .e 119 (.call (.c (.fn 18 [])) [(.t 117), (.t 118)]) 237584,
 .e 120 (.copy (.t 18)) 237592,
 .e 121 (.call (.c (.fn 20 [])) [(.t 120)]) 237600,
 .e 122 (.call (.c (.fn 17 [])) [(.t 119), (.t 121)]) 237608,
 .e 123 (.copy (.t 122)) 237616,
 .g 124 (.copy (.t 7)) 6 123 true 237624 [],
 .e 125 (.pick (.t 123) (.t 124) (.c (.bool false))) 237632,
 .e 6 (.copy (.t 125)) 237640])
 .ret))))))))))))))))
theorem vf4 : VF Tryd.prog 4 = some (126, vc4, [.tmp 6]) := by kernel_rfl
theorem xLU {s : SpanL} (hs : s.lo.length ≤ 30 ∧ s.hi.length ≤ 30) {l : List MsgL} (h8 : ∀ m ∈ l, MsgLen 8 m) (hl : l.length ≤ 6) : SpLen 100 (xAp s l.reverse) := by
  have h0 : SpLen 30 (xAO [s]) := xBp fun x hx => by rw [List.mem_singleton] at hx; subst hx; exact hs
  have := xEo (b := 8) l.reverse 30 _ (by decide) h0 fun m hm => h8 m (List.mem_reverse.1 hm)
  refine SpLen.mono ?_ this
  rw [List.length_reverse]; omega
theorem xOt {α β : Type} {f : α → List β} {l : List α} {i : Nat} {x : α} (h : l[i]? = some x) : (l.take (i + 1)).flatMap f = (l.take i).flatMap f ++ f x := by
  rw [List.take_add_one, h, List.flatMap_append]
  simp
theorem xIn : ∀ (r : List MsgL) (f : FolL), (∀ m ∈ r, MsgLen 8 m) → (xAN f r).key.length ≤ f.key.length + 8 * r.length
  | [], f, _ => by simp [xAN]
  | m :: r, f, h => by
    cases hk : f.known with
    | false =>
      rw [xAv hk]
      have h1 := xIn r (xAe f m) fun x hx => h x (by simp [hx])
      have h2 := xJo (f := f) (h m (by simp)) (Nat.le_refl _)
      rw [List.length_cons]; omega
    | true => rw [xAP hk]; omega
theorem xOr (k : Str) (f : FolL) : (xBz k f).key.length ≤ f.key.length := by
  unfold xBz
  repeat' split
  all_goals simp
set_option maxHeartbeats 8000000 in
theorem xKI {xs ys : List RawM} (hx1 : xs.length ≤ 9223372036854775807) (hx2 : ∀ r ∈ xs, r.ok) (hy1 : ys.length ≤ 9223372036854775807) (hy2 : ∀ r ∈ ys, r.ok) {w0 w1 w2 : Nat} (h0 : w0 < 256) (h1 : w1 < 256) (h2 : w2 < 256) (s : Str) : VC Tryd.prog 4 [.agg [.sh false (xs.map encW), .sh false (ys.map encW)], .agg [.int .u8 w0, .int .u8 w1, .int .u8 w2], .str s] [] (.bool true) [] := by
  have hss := xD0
  have la := xNI hx1 hx2 6 (by omega)
  have na := xId xs 6
  have oa : ∀ m ∈ xB5 xs 6, MsgOk m := xFi
  have sa : ∀ m ∈ xB5 xs 6, MsgLen 8 m := xET
  generalize xB5 xs 6 = a at la na oa sa
  have lb := xNI hy1 hy2 6 (by omega)
  have nb := xId ys 6
  have ob : ∀ m ∈ xB5 ys 6, MsgOk m := xFi
  have sb : ∀ m ∈ xB5 ys 6, MsgLen 8 m := xET
  generalize xB5 ys 6 = b at lb nb ob sb
  have hk := xK1 h0 s
  have hsp := xGQ h1 h2
  have hsl := @xE9 w1 w2
  by_cases h60 : s.length ≤ 60
  · have g1 : decide ((s.length : Int) > 60) = false := decide_eq_false (by omega)
    have hkl := @xJZ w0 s h60
    generalize keyW w0 s = k at *
    generalize xFZ w1 w2 = sp at *
    have oab : ∀ m ∈ a ++ b, MsgOk m := fun m hm => (List.mem_append.1 hm).elim (oa m) (ob m)
    have sab : ∀ m ∈ a ++ b, MsgLen 8 m := fun m hm => (List.mem_append.1 hm).elim (sa m) (sb m)
    have nab : (a ++ b).length ≤ 12 := by rw [List.length_append]; omega
    have kall := xFM (k := k) (l := a ++ b) (by omega) (by omega) oab sab
    have klate := xFM (k := k) (l := b) (by omega) (by omega) ob sb
    have hkp := xOh k a b
    have hflen : (keyL k b).key.length ≤ 1000 := by
      have h1 := xIn b.reverse (fol0 k) fun m hm => sb m (List.mem_reverse.1 hm)
      have h2 := xOr k (xAN (fol0 k) b.reverse)
      have h3 : (fol0 k).key = k := rfl
      rw [h3, List.length_reverse] at h1
      unfold keyL
      omega
    have kearly := xFM (k := (keyL k b).key) (l := a) (by omega) (by omega) oa sa
    have pb := xCJ (s := sp) (l := b) (by omega) ob sb ⟨by omega, by omega⟩
    have pall := xCJ (s := sp) (l := a ++ b) (by omega) oab sab ⟨by omega, by omega⟩
    rw [xK9 oa ob] at pall
    have zb := xDG sp (r := b.reverse) (fun m hm => ob m (List.mem_reverse.1 hm))
    rw [List.length_reverse] at zb
    have hls := xLU hsl sb nb
    generalize xAp sp b.reverse = later at *
    have hlm : (later.map encS).length = later.length := List.length_map _
    have g400 : decide (((later.map encS).length : Int) > 400) = false := decide_eq_false (by omega)
    have pe := fun (x : SpanL) (hx : x ∈ later) => xCJ (s := x) (l := a) (by omega) oa sa (hls x hx)
    have ze := fun (x : SpanL) => xDG x (r := a.reverse) (fun m hm => oa m (List.mem_reverse.1 hm))
    simp only [List.length_reverse] at ze
    refine vcs vf4 ?_
    repeat first|refine sgo ?_|refine cv0 hss ?_|refine sop ?_
    refine cndf (xAA ?_)
    refine xA9 (rg ?_)
    repeat first|refine xAX ?_|refine cf la ?_|refine cf lb ?_|refine cv0 hk ?_|refine sop ?_
    refine nl ?_
    refine xA9 (rg ?_)
    repeat first|refine xAX ?_|refine o_v (vaps encM [] a) ?_|refine sop ?_
    refine nl ?_
    refine xA9 (rg ?_)
    repeat first|refine xAX ?_|refine o_v (vaps encM a b) ?_|refine sop ?_
    refine nl ?_
    refine xA9 (rg ?_)
    refine sqi (Imp.wr (t := 11) rfl (xAV rfl rfl)) ?_
    repeat first|refine xAX ?_|refine cf kall ?_|refine cf klate ?_|refine sop ?_
    refine nl ?_
    refine xA9 (rg ?_)
    repeat first|refine xAX ?_|refine sop ?_
    refine nl ?_
    refine xCA (lvl := 1) (fun _ => [(4, .ptr ⟨1, 8⟩ 1 0 0), (7, .bool true), (8, .sh false (a.map encM)), (9, .sh false (b.map encM)), (11, .sh false ((a ++ b).map encM)), (12, .ptr ⟨1, 57392⟩ 1 0 0), (14, .ptr ⟨1, 65544⟩ 1 0 0)])
      (fun (_ : Unit) => [(⟨1, 8⟩, ⟨true, false, 3, [[.int .u8 w0, .int .u8 w1, .int .u8 w2]]⟩), (⟨1, 57392⟩, ⟨true, false, 8, [xHu (keyL k (a ++ b))]⟩), (⟨1, 65544⟩, ⟨true, false, 8, [xHu (keyL k (a ++ b))]⟩)]) (fun _ => True) ?_ ?_
    · rw [hkp]
      generalize keyL k b = F at *
      obtain ⟨fkn, fh, fp, fk, fs, fst⟩ := F
      cases fkn with
      | true =>
        rw [if_pos rfl]
        repeat first|refine sgo ?_|refine sop ?_
        refine cndf (xAA ?_)
        exact mid0 () trivial (xAT (h5 := by repeat' first|exact trivial|apply And.intro|(intro h; first|exact xDB h rfl|rfl)))
      | false =>
        rw [if_neg (by simp)]
        simp only at kearly
        generalize keyL fk a = E at *
        obtain ⟨ek, eh, ⟨ep, ev, et⟩, ekey, es, est⟩ := E
        by_cases htruetruetrue : ek = true ∧ eh = true ∧ fs = true
        · obtain ⟨rfl, rfl, rfl⟩ := htruetruetrue
          repeat first|refine sgo ?_|refine cf kearly ?_|refine sop ?_
          refine cndt ?_
          repeat first|refine sgo ?_|refine cf kearly ?_|refine sop ?_
          (first | refine cndt ?_ | refine cndf (xAA ?_))
          repeat first|refine sgo ?_|refine sop ?_
          (first | refine cndt ?_ | refine cndf (xAA ?_))
          repeat first|refine sgo ?_|refine sop ?_
          (first | refine cndt ?_ | refine cndf (xAA ?_))
          repeat first|refine sgo ?_|refine sop ?_
          exact mid0 () trivial (xAT (h5 := by repeat' first|exact trivial|apply And.intro|(intro h; first|exact xDB h rfl|rfl)))
        by_cases htruetruefalse : ek = true ∧ eh = true ∧ fs = false
        · obtain ⟨rfl, rfl, rfl⟩ := htruetruefalse
          repeat first|refine sgo ?_|refine cf kearly ?_|refine sop ?_
          refine cndt ?_
          repeat first|refine sgo ?_|refine cf kearly ?_|refine sop ?_
          (first | refine cndt ?_ | refine cndf (xAA ?_))
          repeat first|refine sgo ?_|refine sop ?_
          (first | refine cndt ?_ | refine cndf (xAA ?_))
          repeat first|refine sgo ?_|refine sop ?_
          (first | refine cndt ?_ | refine cndf (xAA ?_))
          repeat first|refine sgo ?_|refine sop ?_
          exact mid0 () trivial (xAT (h5 := by repeat' first|exact trivial|apply And.intro|(intro h; first|exact xDB h rfl|rfl)))
        by_cases htruefalsetrue : ek = true ∧ eh = false ∧ fs = true
        · obtain ⟨rfl, rfl, rfl⟩ := htruefalsetrue
          repeat first|refine sgo ?_|refine cf kearly ?_|refine sop ?_
          refine cndt ?_
          repeat first|refine sgo ?_|refine cf kearly ?_|refine sop ?_
          (first | refine cndt ?_ | refine cndf (xAA ?_))
          repeat first|refine sgo ?_|refine sop ?_
          (first | refine cndt ?_ | refine cndf (xAA ?_))
          repeat first|refine sgo ?_|refine sop ?_
          (first | refine cndt ?_ | refine cndf (xAA ?_))
          repeat first|refine sgo ?_|refine sop ?_
          exact mid0 () trivial (xAT (h5 := by repeat' first|exact trivial|apply And.intro|(intro h; first|exact xDB h rfl|rfl)))
        by_cases htruefalsefalse : ek = true ∧ eh = false ∧ fs = false
        · obtain ⟨rfl, rfl, rfl⟩ := htruefalsefalse
          repeat first|refine sgo ?_|refine cf kearly ?_|refine sop ?_
          refine cndt ?_
          repeat first|refine sgo ?_|refine cf kearly ?_|refine sop ?_
          (first | refine cndt ?_ | refine cndf (xAA ?_))
          repeat first|refine sgo ?_|refine sop ?_
          (first | refine cndt ?_ | refine cndf (xAA ?_))
          repeat first|refine sgo ?_|refine sop ?_
          (first | refine cndt ?_ | refine cndf (xAA ?_))
          repeat first|refine sgo ?_|refine sop ?_
          exact mid0 () trivial (xAT (h5 := by repeat' first|exact trivial|apply And.intro|(intro h; first|exact xDB h rfl|rfl)))
        by_cases hfalsetruetrue : ek = false ∧ eh = true ∧ fs = true
        · obtain ⟨rfl, rfl, rfl⟩ := hfalsetruetrue
          repeat first|refine sgo ?_|refine cf kearly ?_|refine sop ?_
          refine cndt ?_
          repeat first|refine sgo ?_|refine cf kearly ?_|refine sop ?_
          (first | refine cndt ?_ | refine cndf (xAA ?_))
          repeat first|refine sgo ?_|refine sop ?_
          (first | refine cndt ?_ | refine cndf (xAA ?_))
          repeat first|refine sgo ?_|refine sop ?_
          (first | refine cndt ?_ | refine cndf (xAA ?_))
          repeat first|refine sgo ?_|refine sop ?_
          exact mid0 () trivial (xAT (h5 := by repeat' first|exact trivial|apply And.intro|(intro h; first|exact xDB h rfl|rfl)))
        by_cases hfalsetruefalse : ek = false ∧ eh = true ∧ fs = false
        · obtain ⟨rfl, rfl, rfl⟩ := hfalsetruefalse
          repeat first|refine sgo ?_|refine cf kearly ?_|refine sop ?_
          refine cndt ?_
          repeat first|refine sgo ?_|refine cf kearly ?_|refine sop ?_
          (first | refine cndt ?_ | refine cndf (xAA ?_))
          repeat first|refine sgo ?_|refine sop ?_
          (first | refine cndt ?_ | refine cndf (xAA ?_))
          repeat first|refine sgo ?_|refine sop ?_
          (first | refine cndt ?_ | refine cndf (xAA ?_))
          repeat first|refine sgo ?_|refine sop ?_
          exact mid0 () trivial (xAT (h5 := by repeat' first|exact trivial|apply And.intro|(intro h; first|exact xDB h rfl|rfl)))
        by_cases hfalsefalsetrue : ek = false ∧ eh = false ∧ fs = true
        · obtain ⟨rfl, rfl, rfl⟩ := hfalsefalsetrue
          repeat first|refine sgo ?_|refine cf kearly ?_|refine sop ?_
          refine cndt ?_
          repeat first|refine sgo ?_|refine cf kearly ?_|refine sop ?_
          (first | refine cndt ?_ | refine cndf (xAA ?_))
          repeat first|refine sgo ?_|refine sop ?_
          (first | refine cndt ?_ | refine cndf (xAA ?_))
          repeat first|refine sgo ?_|refine sop ?_
          (first | refine cndt ?_ | refine cndf (xAA ?_))
          repeat first|refine sgo ?_|refine sop ?_
          exact mid0 () trivial (xAT (h5 := by repeat' first|exact trivial|apply And.intro|(intro h; first|exact xDB h rfl|rfl)))
        by_cases hfalsefalsefalse : ek = false ∧ eh = false ∧ fs = false
        · obtain ⟨rfl, rfl, rfl⟩ := hfalsefalsefalse
          repeat first|refine sgo ?_|refine cf kearly ?_|refine sop ?_
          refine cndt ?_
          repeat first|refine sgo ?_|refine cf kearly ?_|refine sop ?_
          (first | refine cndt ?_ | refine cndf (xAA ?_))
          repeat first|refine sgo ?_|refine sop ?_
          (first | refine cndt ?_ | refine cndf (xAA ?_))
          repeat first|refine sgo ?_|refine sop ?_
          (first | refine cndt ?_ | refine cndf (xAA ?_))
          repeat first|refine sgo ?_|refine sop ?_
          exact mid0 () trivial (xAT (h5 := by repeat' first|exact trivial|apply And.intro|(intro h; first|exact xDB h rfl|rfl)))
        cases ek <;> cases eh <;> cases fs <;> simp_all
    · intro _ _
      generalize keyL k (a ++ b) = G at *
      repeat first|refine sgo ?_|refine o_v (veqF G) ?_|refine sop ?_
      refine cndf (xAA ?_)
      repeat first|refine sgo ?_|refine cv0 hsp ?_|refine cf pb ?_|refine sop ?_
      refine cndf (xAA ?_)
      repeat first|refine sgo ?_|refine sop ?_
      refine xAH (fun (g : Nat × List SpanL) => [(7, .bool true), (8, .sh false (a.map encM)), (11, .sh false ((a ++ b).map encM)), (16, .ptr ⟨1, 163888⟩ 1 0 0), (17, .sh false (later.map encS)), (18, ownV ⟨1, 196608⟩ (g.2.map encS)), (19, .int .i64 g.1)])
        (fun g => [(⟨1, 163888⟩, ⟨true, false, 2, [encS sp]⟩), (⟨1, 196608⟩, blkV 2 (g.2.map encS))]) (fun g => later.length - g.1)
        (fun g => g.1 ≤ later.length ∧ g.2 = (later.take g.1).flatMap (fun x => xAp x a.reverse) ∧ g.2.length ≤ 19 * g.1) (0, []) xAT ⟨Nat.zero_le _, by simp, by simp⟩ ?_
      rintro ⟨i, o⟩ ⟨hi, ho, hol⟩
      dsimp only at hi ho hol ⊢
      repeat first|refine sgo ?_|refine sop ?_
      refine cnd (fun h => xAA ?_) (fun h => xAF ?_)
      · have hlt : i < later.length := by have h' := of_decide_eq_true h; omega
        obtain ⟨x, hx⟩ : ∃ x, later[i]? = some x := ⟨_, List.getElem?_eq_getElem hlt⟩
        have hxe := gm (enc := encS) (n := (i : Int)) hx (by omega)
        have hlt2 : (i : Int) < ((later.map encS).length : Nat) := by omega
        have px := pe x (List.mem_of_getElem? hx)
        have zx := ze x
        have hst := xOt (f := fun x => xAp x a.reverse) hx
        rw [← ho] at hst
        generalize xAp x a.reverse = z at *
        have hzl : z.length ≤ 19 := by omega
        repeat first|refine sgo ?_|refine cf px ?_|refine o_v (vaps encS o z) ?_|refine sop ?_
        exact agn (Q := fun _ _ => True) (i + 1, o ++ z) ⟨by simp only; omega, by simp only [hst], by simp only [List.length_append]; omega⟩ xAT
      · have hge : i = later.length := by have h' := of_decide_eq_false h; omega
        subst hge
        rw [List.take_length] at ho
        rw [← ho] at pall
        have nn : VC Tryd.prog 20 [.sh false (o.map encS)] [] (.sh false ((xAO o).map encS)) [] := xF1 (xEP (l := o) Sl.sh (by omega))
        have nnl := xCO o
        have q1 := xGv (l := xAO o) (by unfold maxLen; omega)
        repeat first|refine sgo ?_|refine cf pall ?_|refine cf nn ?_|refine cv0 q1 ?_|refine sop ?_
        exact xAC ⟨.inr rfl, oB rfl⟩
  · have g1 : decide ((s.length : Int) > 60) = true := decide_eq_true (by omega)
    refine vcs vf4 ?_
    repeat first|refine sgo ?_|refine cv0 hss ?_|refine sop ?_
    refine cndt ?_
    repeat first|refine sgo ?_|refine sop ?_
    exact xAC ⟨.inr rfl, oB rfl⟩
theorem traceParts_in (l : List PV) (nn : l.length = [CTy.sl [.int .u8, .int .u8, .int .u8, .int .u8, .int .u8, .int .u8], .sl [.int .u8, .int .u8, .int .u8, .int .u8, .int .u8, .int .u8]].length) (il : ∀ (j : Nat) (c : CTy) (p : PV), [CTy.sl [.int .u8, .int .u8, .int .u8, .int .u8, .int .u8, .int .u8], .sl [.int .u8, .int .u8, .int .u8, .int .u8, .int .u8, .int .u8]][j]? = some c → l[j]? = some p → InTy c p) (w : List PV) (nw : w.length = [CTy.int .u8, .int .u8, .int .u8].length) (iw : ∀ (j : Nat) (c : CTy) (p : PV), [CTy.int .u8, .int .u8, .int .u8][j]? = some c → w[j]? = some p → InTy c p) (s : Str) (hs : s.length ≤ maxLen) : VC Tryd.prog 4 [.agg l, .agg w, .str s] [] (.bool true) [] := by
  obtain ⟨a, b, rfl⟩ := list2 nn
  obtain ⟨l1, rfl, i1⟩ := in_sl (il 0 _ _ rfl rfl)
  obtain ⟨l2, rfl, i2⟩ := in_sl (il 1 _ _ rfl rfl)
  obtain ⟨xs, rfl, h1, h2⟩ := xNS i1
  obtain ⟨ys, rfl, h3, h4⟩ := xNS i2
  obtain ⟨a, b, c, rfl, ha, hb, hc⟩ := dec3 nw iw
  exact xKI h2 h1 h4 h3 ha hb hc s
end Go.Proofs
