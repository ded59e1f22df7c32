/- Hb -/
import Derived.Test.YtlpjfoijjlmgeaaGreatDoorHa
import Derived.Test.YtlpjfoijjlmgeaaGreatDoorSc
import Derived.Test.YtlpjfoijjlmgeaaGreatDoorVD
import Derived.Test.YtlpjfoijjlmgeaaGreatDoorPu
open Go.V Go.Pu
set_option linter.unusedVariables false
set_option linter.unusedSimpArgs false
set_option maxRecDepth 20000
namespace Go.Proofs
def vc26 := vcm Tryz.prog 26
theorem vf26 : VF Tryz.prog 26 = some (7, vc26, [.tmp 3]) := by kernel_rfl
def vc32 := vcm Tryz.prog 32
theorem vf32 : VF Tryz.prog 32 = some (33, vc32, [.cell true 2 6]) := by kernel_rfl
theorem xPM {k p : Str} (h : xAD k p = true) (hp : p ≠ []) : k ≠ [] := by
  rintro rfl
  obtain ⟨r, hr⟩ := begins_iff.1 h
  cases p with
  | nil => exact hp rfl
  | cons c p => simp at hr
theorem xKU {s : SpanL} {to fr : Str} (hto : to ≠ []) (hs : xAD s.lo to = true) (h1 : s.lo.length ≤ 1000000) (h2 : s.hi.length ≤ 1000000) (h3 : to.length ≤ 1000000) (h4 : fr.length ≤ 1000000) : VC Tryz.prog 32 [.agg (encS s), .str to, .str fr] [] (.agg (encS (xBV to fr s))) [] := by
  have hp := xDN fr (by omega)
  have m1 := xGQ s.lo to fr (by omega) (by omega) (by omega)
  have m2 := xGQ s.hi to fr (by omega) (by omega) (by omega)
  unfold xD7 at m1 m2
  rw [if_pos hs] at m1
  have e : xBV to fr s = ⟨fr ++ s.lo.drop to.length, if xAD s.hi to = true then fr ++ s.hi.drop to.length else upL fr⟩ := by
    unfold xBV
    congr 1
    cases hb : xAD s.hi to with
    | true => rw [if_pos ⟨rfl, xPM hb hto⟩, if_pos rfl]
    | false => rw [if_neg (by simp), if_neg (by simp)]
  rw [e]
  cases hb : xAD s.hi to with
  | true =>
    rw [hb, if_pos rfl] at m2
    rw [if_pos rfl]
    refine vcs vf32 ?_
    repeat first|refine sgo ?_|refine cv0 hp ?_|refine cv0 m1 ?_|refine cv0 m2 ?_|refine sop ?_
    refine cndt ?_
    repeat first|refine sgo ?_|refine sop ?_
    exact xAC ⟨.inr rfl, oAny rfl⟩
  | false =>
    rw [hb, if_neg (by simp)] at m2
    rw [if_neg (by simp)]
    refine vcs vf32 ?_
    repeat first|refine sgo ?_|refine cv0 hp ?_|refine cv0 m1 ?_|refine cv0 m2 ?_|refine sop ?_
    refine cndf (xAB ?_)
    repeat first|refine sgo ?_|refine sop ?_
    exact xAC ⟨.inr rfl, oAny rfl⟩
theorem xOn {m : MsgL} {l : List SpanL} {i : Nat} {x : SpanL} (hx : l[i]? = some x) : inTo m (l.take (i + 1)) = inTo m (l.take i) ++ if xAJ (xAt x (xAG m.to)) = true then [] else [xAt x (xAG m.to)] := by
  unfold inTo
  rw [List.take_add_one, hx, Option.toList_some, List.map_append, List.filter_append]
  congr 1
  cases h : xAJ (xAt x (xAG m.to)) <;> simp [h]
theorem xK3 {x : SpanL} {to : Str} (h : xAJ (xAt x (xAG to)) = false) : xAD (xAt x (xAG to)).lo to = true := by
  have := xDT h
  rw [xCH, Bool.and_eq_true, xAc] at this
  exact this.2
theorem xMG (m : MsgL) (l : List SpanL) : (inTo m l).length ≤ l.length := by
  unfold inTo
  exact Nat.le_trans (List.length_filter_le ..) (by simp)
theorem xOq {l : List MsgL} {i : Nat} {m : MsgL} (h : l[i]? = some m) (x : List SpanL) : (l.take (i + 1)).reverse.foldl xCN x = (l.take i).reverse.foldl xCN (xCN x m) := by
  rw [xLc h, List.foldl_cons]
end Go.Proofs
open Go.V Go.Pu
set_option linter.unusedVariables false
set_option linter.unusedSimpArgs false
set_option maxRecDepth 20000
namespace Go.Proofs
def vc9 := vcm Tryz.prog 9
theorem vf9 : VF Tryz.prog 9 = some (85, vc9, [.tmp 4]) := by kernel_rfl
theorem xIw {l g : List SpanL} (hl : l.length ≤ 200) (hg : g.length ≤ 200) : VC Tryz.prog 26 [.sh false (g.map encS), .ptr ⟨0, 0⟩ 1 0 0] [⟨true, false, 1, [[.sh false (l.map encS)]]⟩] (ownV ⟨0, 1⟩ ((xAw l g).map encS)) [⟨true, false, 1, [[.sh false (l.map encS)]]⟩, blkV 2 ((xAw l g).map encS)] := by
  have h := xQG (q := .sh false (l.map encS)) (p := .sh false (g.map encS)) (l := l) (m := g) Sl.sh Sl.sh hl hg
  refine vcs vf26 ?_
  repeat first|refine sgo ?_|refine cv h ?_|refine sop ?_
  refine xAC ⟨.inr rfl, ?_⟩
  exact oG [⟨1, 8208⟩]
abbrev ST : Tmps := [(5, .ptr ⟨0, 1001⟩ 1 0 0), (18, .fn 48 [.ptr ⟨0, 1002⟩ 1 0 0])]
abbrev SH (l : List MsgL) (d : List SpanL) : Heap := [(⟨0, 1001⟩, ⟨true, false, 1, [[.sh false (d.map encS)]]⟩), (⟨0, 1002⟩, ⟨true, false, 1, [[.sh false (l.map encM)]]⟩)]
theorem gone4 {m : MsgL} (h : m.kind = 4) : xCZ m = [xAG m.to, xAG m.fr] := by unfold xCZ; rw [if_pos h]
theorem gone5 {m : MsgL} (h : m.kind = 5) : xCZ m = [xAG m.to] := by unfold xCZ; rw [if_neg (by omega)]
theorem thru45 {m : MsgL} (h : m.kind = 4 ∨ m.kind = 5) (l : List SpanL) : xCN l m = xAV (xAw l (xCZ m) ++ (inTo m l).map (xBV m.to m.fr)) := by
  unfold xCN
  rw [if_neg (by omega), if_neg (by omega), if_neg (by omega)]
theorem xGK {n : Nat} {p : Prop} (h : n = 0) (e : Nat.beq n 0 = false) : p := by subst h; cases e
set_option maxHeartbeats 8000000 in
theorem xLW {s : SpanL} {l : List MsgL} (hl : l.length ≤ 40) (ho : ∀ m ∈ l, MsgOk m) (h8 : ∀ m ∈ l, MsgLen 8 m) (hs : s.lo.length ≤ 100 ∧ s.hi.length ≤ 100) : VC Tryz.prog 9 [.agg (encS s), .sh false (l.map encM)] [] (.sh false ((xBh s l.reverse).map encS)) [] := by
  have hml : (l.map encM).length = l.length := List.length_map _
  have hno : VC Tryz.prog 24 [.sh false ([s].map encS)] [] (.sh false ((xAV [s]).map encS)) [] := xQz (xIp (xs := [s]) Sl.sh (by simp))
  have hnl := xD2 [s]
  have hsp0 : SpLen 100 (xAV [s]) := xDe fun x hx => by rw [List.mem_singleton] at hx; subst hx; exact hs
  refine vcs vf9 ?_
  refine xBH (rg ?_)
  repeat first|refine xAm ?_|refine sop ?_
  refine nl ?_
  refine xBH (rg ?_)
  repeat first|refine xAm ?_|refine cf hno ?_|refine sop ?_
  refine nl ?_
  refine xB0 (lvl := 1) (fun _ => [(5, .ptr ⟨0, 1001⟩ 1 0 0)]) (fun (_ : Unit) => SH l (xBh s l.reverse)) (fun _ => True) ?_ ?_
  · repeat first|refine sgo ?_|refine cf (xMY (l := l)) ?_|refine sop ?_
    refine rng (f := 48) (lvlI := 2) (T := ST) (H := SH l (xAV [s]))
      ((show Imp _ ⟨1, [(5, .ptr ⟨1, 8216⟩ 1 0 0), (18, .fn 48 [.ptr ⟨1, 16392⟩ 1 0 0])], [(⟨1, 8216⟩, ⟨true, false, 1, [[.sh false ((xAV [s]).map encS)]]⟩), (⟨1, 16392⟩, ⟨true, false, 1, [[.sh false (l.map encM)]]⟩)]⟩ from xA7).trans ((Imp.ren' (b := ⟨1, 8216⟩) (c := ⟨0, 1001⟩) (by decide) (.inr rfl)).trans (Imp.ren' (b := ⟨1, 16392⟩) (c := ⟨0, 1002⟩) (by decide) (.inr rfl))) |>.trans xA7) vf48 ?_
    intro y
    refine xGA (xBL ?_)
    repeat first|refine sgo ?_|refine sop ?_
    refine xGY ?_
    refine xMU (fun (g : Nat × List SpanL) => [(0, .yld y), (1, .ptr ⟨0, 1002⟩ 1 0 0), (3, .int .i64 ((g.1 : Int) - 1))]) (fun g => SH l g.2) (fun g => g.1)
      (fun g => g.1 ≤ l.length ∧ (l.take g.1).reverse.foldl xCN g.2 = xBh s l.reverse ∧ Nrm g.2 ∧ g.2.length + 3 * g.1 ≤ 122 ∧ SpLen (100 + 8 * (40 - g.1)) g.2)
      (l.length, xAV [s]) (xA7 (h1 := by refine ⟨rfl, rfl, ?_, trivial⟩; exact congrArg (fun z => some (PV.int .i64 z)) (by simp))) ⟨Nat.le_refl _, by simp only [List.take_length]; rfl, (xAZ [s]).1, by simp only [List.length_cons, List.length_nil] at hnl ⊢; omega, hsp0.mono (by omega)⟩ ?_
    rintro ⟨i, d⟩ ⟨hi, hv, hd, hdl, hds⟩
    dsimp only at hi hv hd hdl hds ⊢
    refine xGA (xBL ?_)
    repeat first|refine sgo ?_|refine sop ?_
    refine cnd (fun h => xAB ?_) (fun h => xAE ?_)
    · obtain ⟨j, rfl⟩ : ∃ j, i = j + 1 := ⟨i - 1, by have h' := of_decide_eq_true h; omega⟩
      obtain ⟨m, hx⟩ : ∃ m, l[j]? = some m := ⟨_, List.getElem?_eq_getElem (by omega)⟩
      have hxe := gm (enc := encM) (n := ((j + 1 : Nat) : Int) - 1) hx (by omega)
      have hlt2 : ((j + 1 : Nat) : Int) - 1 < ((l.map encM).length : Nat) := by omega
      have hge2 : 0 ≤ ((j + 1 : Nat) : Int) - 1 := by omega
      have hmem := List.mem_of_getElem? hx
      have hmo := ho m hmem
      have hm8 := h8 m hmem
      have htl := xLS hmo hd
      have hts := xHz (n := 100 + 8 * (40 - (j + 1))) (b := 8) (by omega) hds hm8
      have htn := xGM hd m
      have hdz : SpLen 100000 d := hds.mono (by omega)
      have hmz := MsgSz.of hmo hm8
      have hkey := hm8.key
      have hfl := hm8.fr
      have htol := hm8.to
      have hne := hmo.ne
      have hk6 := hmz.k
      rw [xOq hx] at hv
      have hts' : SpLen (100 + 8 * (40 - j)) (xCN d m) := hts.mono (by omega)
      have t12 : (m.kind = 1 ∨ m.kind = 2) → xCN d m = xAw d [oneL m.key] := fun h => by unfold xCN; rw [if_pos h]
      have t3 : m.kind = 3 → xCN d m = xAw d [m.sp] := fun h => by unfold xCN; rw [if_neg (by omega), if_pos h]
      have t6 : m.kind = 6 → xCN d m = d := fun h => by unfold xCN; rw [if_neg (by omega), if_neg (by omega), if_pos h]
      have t45 := fun h => thru45 (m := m) h d
      have c1 := xIw (l := d) (g := [oneL m.key]) (by omega) (by simp)
      have c3 := xIw (l := d) (g := [m.sp]) (by omega) (by simp)
      have c4 := xIw (l := d) (g := xCZ m) (by omega) (by unfold xCZ; split <;> simp)
      have g4 := fun h => gone4 (m := m) h
      have g5 := fun h => gone5 (m := m) h
      have o1 := xRF m.key (by omega)
      have p1 := xDN m.to (by omega)
      have p2 := xDN m.fr (by omega)
      have hgl : (xAw d (xCZ m)).length ≤ 400 := by
        have := xFA d (xCZ m)
        have h2 : (xCZ m).length ≤ 2 := by unfold xCZ; split <;> simp
        omega
      have hit := fun i => xMG m (d.take i)
      have hstep := fun i x hx => xOn (m := m) (l := d) (i := i) (x := x) hx
      have hbeg := fun x h => xK3 (x := x) (to := m.to) h
      have ps1 := xCP (n := 100000) (p := m.to) (by omega)
      have hmsp := fun (x : SpanL) (hx : x ∈ d) => xFd (n := 100000) (by decide) (hdz x hx) ps1
      have htot : (xAw d (xCZ m) ++ (inTo m d).map (xBV m.to m.fr)).length ≤ 1000 := by
        have := xMG m d
        rw [List.length_append, List.length_map]; omega
      have hnn : VC Tryz.prog 24 [.sh false ((xAw d (xCZ m) ++ (inTo m d).map (xBV m.to m.fr)).map encS)] [] (.sh false ((xAV (xAw d (xCZ m) ++ (inTo m d).map (xBV m.to m.fr))).map encS)) [] := xQz (xIp (xs := xAw d (xCZ m) ++ (inTo m d).map (xBV m.to m.fr)) Sl.sh (by omega))
      clear hmz hmem h8 ho hm8 hmo hds hts hsp0
      obtain ⟨mk, m2, m3, m4, m5, m6, m7⟩ := m
      simp only at t12 t3 t6 t45 c1 c3 g4 g5 hk6 hne o1 p1 p2 hfl htol hkey hbeg hmsp hstep htot hnn ps1
      refine xGA (xGY (xGA (xKR (xLX 6 ?_))))
      repeat first|refine sgo ?_|refine sop ?_
      refine yl (T := [(0, .yld y), (1, .ptr ⟨0, 1002⟩ 1 0 0), (3, .int .i64 (((j + 1 : Nat) : Int) - 1)), (11, .yld y), (12, .int .i64 (((j + 1 : Nat) : Int) - 1)), (16, .agg (encM ⟨mk, m2, m3, m4, m5, m6, m7⟩))]) (H := SH l d) 3 xA7 ?_
      repeat first|refine sgo ?_|refine sop ?_
      refine ⟨rfl, ?_⟩
      rcases six hk6 with rfl | rfl | rfl | rfl | rfl | rfl
      · rw [t12 (.inl rfl)] at hv htl hts' htn
        clear t12 t3 t6 t45 c3 c4 g4 g5 hit hstep hbeg hmsp ps1 htot hnn hgl
        repeat first|refine sgo ?_|refine sop ?_
        refine cndt (xAB ?_)
        refine cndt ?_
        repeat first|refine sgo ?_|refine cv0 o1 ?_|refine sop ?_
        refine sqi (Imp.wr (t := 31) rfl (xAW rfl rfl)) ?_
        repeat first|refine sgo ?_|refine cl (lent := [⟨0, 1001⟩]) c1 ?_|refine sop ?_
        refine xA0 ?_
        repeat first|refine sgo ?_|refine sop ?_
        refine xCb (xBL (xAB ?_))
        refine xBL ?_
        repeat first|refine sgo ?_|refine sop ?_
        exact agL (j, xAw d [oneL m2]) ⟨by simp only; omega, hv, htn, by simp only; omega, hts'⟩ ((Imp.wrC (b1 := ⟨0, 1001⟩) (c := ⟨3, 65576⟩) 0 rfl rfl rfl rfl).trans (xA7 (h1 := by refine ⟨rfl, rfl, ?_, trivial⟩; exact congrArg (fun z => some (PV.int .i64 z)) (by simp only; omega)) (h5 := by repeat' first|exact trivial|apply And.intro|(intro h; first|exact xGK h rfl|rfl))))
      · rw [t12 (.inr rfl)] at hv htl hts' htn
        clear t12 t3 t6 t45 c3 c4 g4 g5 hit hstep hbeg hmsp ps1 htot hnn hgl
        repeat first|refine sgo ?_|refine sop ?_
        refine cndf ?_
        repeat first|refine sgo ?_|refine sop ?_
        refine cndt ?_
        repeat first|refine sgo ?_|refine cv0 o1 ?_|refine sop ?_
        refine sqi (Imp.wr (t := 31) rfl (xAW rfl rfl)) ?_
        repeat first|refine sgo ?_|refine cl (lent := [⟨0, 1001⟩]) c1 ?_|refine sop ?_
        refine xA0 ?_
        repeat first|refine sgo ?_|refine sop ?_
        refine xCb (xBL (xAB ?_))
        refine xBL ?_
        repeat first|refine sgo ?_|refine sop ?_
        exact agL (j, xAw d [oneL m2]) ⟨by simp only; omega, hv, htn, by simp only; omega, hts'⟩ ((Imp.wrC (b1 := ⟨0, 1001⟩) (c := ⟨3, 65576⟩) 0 rfl rfl rfl rfl).trans (xA7 (h1 := by refine ⟨rfl, rfl, ?_, trivial⟩; exact congrArg (fun z => some (PV.int .i64 z)) (by simp only; omega)) (h5 := by repeat' first|exact trivial|apply And.intro|(intro h; first|exact xGK h rfl|rfl))))
      · rw [t3 rfl] at hv htl hts' htn
        clear t12 t3 t6 t45 c1 c4 g4 g5 hit hstep hbeg hmsp ps1 htot hnn hgl
        repeat first|refine sgo ?_|refine sop ?_
        refine cndf ?_
        repeat first|refine sgo ?_|refine sop ?_
        refine cndf ?_
        repeat first|refine sgo ?_|refine sop ?_
        refine cndt ?_
        repeat first|refine sgo ?_|refine sop ?_
        refine sqi (Imp.wr (t := 38) rfl (xAW rfl rfl)) ?_
        repeat first|refine sgo ?_|refine cl (lent := [⟨0, 1001⟩]) c3 ?_|refine sop ?_
        refine xA0 ?_
        repeat first|refine sgo ?_|refine sop ?_
        refine xCb (xBL (xAB ?_))
        refine xBL ?_
        repeat first|refine sgo ?_|refine sop ?_
        exact agL (j, xAw d [m4]) ⟨by simp only; omega, hv, htn, by simp only; omega, hts'⟩ ((Imp.wrC (b1 := ⟨0, 1001⟩) (c := ⟨3, 81952⟩) 0 rfl rfl rfl rfl).trans (xA7 (h1 := by refine ⟨rfl, rfl, ?_, trivial⟩; exact congrArg (fun z => some (PV.int .i64 z)) (by simp only; omega)) (h5 := by repeat' first|exact trivial|apply And.intro|(intro h; first|exact xGK h rfl|rfl))))
      · rw [t45 (.inl rfl)] at hv htl hts' htn
        rw [g4 rfl] at c4
        have hto : m6 ≠ [] := (hne (.inl rfl)).2
        clear t12 t3 t6 t45 c1 c3
        generalize hG : xAw d (xCZ ⟨4, m2, m3, m4, m5, m6, m7⟩) = G0 at *
        rw [g4 rfl] at hG
        rw [hG] at c4
        repeat first|refine sgo ?_|refine sop ?_
        refine cndf ?_
        repeat first|refine sgo ?_|refine sop ?_
        refine cndf ?_
        repeat first|refine sgo ?_|refine sop ?_
        refine cndf ?_
        repeat first|refine sgo ?_|refine sop ?_
        refine cndt (xAB ?_)
        refine cndt ?_
        repeat first|refine sgo ?_|refine cv0 p1 ?_|refine sop ?_
        refine cndt ?_
        repeat first|refine sgo ?_|refine cv0 p2 ?_|refine o_v (vap encS (xAG m5) (ys := [xAG m6])) ?_|refine sop ?_
        refine sqi (Imp.wr (t := 58) rfl (xAW rfl rfl)) ?_
        repeat first|refine sgo ?_|refine cl (lent := [⟨0, 1001⟩]) c4 ?_|refine sop ?_
        refine xAK (fun (g : Nat × List SpanL) => [(5, .ptr ⟨0, 1001⟩ 1 0 0), (18, .fn 48 [.ptr ⟨0, 1002⟩ 1 0 0]), (7, .ptr ⟨3, 24576⟩ 1 0 0), (9, .ptr ⟨3, 106520⟩ 1 0 0), (11, ownV ⟨3, 139280⟩ (g.2.map encS)), (60, .sh false (d.map encS)), (61, .int .i64 (d.map encS).length), (62, .int .i64 g.1)])
          (fun g => SH l d ++ [(⟨3, 24576⟩, ⟨true, false, 8, [encM ⟨4, m2, m3, m4, m5, m6, m7⟩]⟩), (⟨3, 106520⟩, ⟨true, false, 2, [encS (xAG m6)]⟩), (⟨3, 139280⟩, blkV 2 (g.2.map encS))]) (fun g => d.length - g.1)
          (fun g => g.1 ≤ d.length ∧ g.2 = G0 ++ (inTo ⟨4, m2, m3, m4, m5, m6, m7⟩ (d.take g.1)).map (xBV m6 m5)) (0, G0) (xA7 (h5 := by repeat' first|exact trivial|apply And.intro|(intro h; first|exact xGK h rfl|rfl))) ⟨Nat.zero_le _, by simp [inTo]⟩ ?_
        rintro ⟨i, o⟩ ⟨hi3, ho2⟩
        dsimp only at hi3 ho2 ⊢
        have hi2 := hit i
        have hol : o.length ≤ 1000 := by
          rw [List.length_take] at hi2
          rw [ho2, List.length_append, List.length_map]; omega
        have hdm : (d.map encS).length = d.length := List.length_map _
        repeat first|refine sgo ?_|refine sop ?_
        refine cnd (fun h3 => xAB ?_) (fun h3 => xAE ?_)
        · have hlt : i < d.length := by have h' := of_decide_eq_true h3; omega
          obtain ⟨x, hx2⟩ : ∃ m, d[i]? = some m := ⟨_, List.getElem?_eq_getElem hlt⟩
          have hxe2 := gm (enc := encS) (n := (i : Int)) hx2 (by omega)
          have hlt3 : (i : Int) < ((d.map encS).length : Nat) := by omega
          have hmt := xK2 x (xAG m6)
          have hem := xDn (xAt x (xAG m6))
          have hsx := hmsp x (List.mem_of_getElem? hx2)
          have hst := hstep i x hx2
          have hbx := hbeg x
          generalize xAt x (xAG m6) = z at *
          cases hey : xAJ z with
          | true =>
            rw [hey] at hem hst
            rw [if_pos rfl, List.append_nil] at hst
            repeat first|refine sgo ?_|refine cv0 hmt ?_|refine cv0 hem ?_|refine sop ?_
            refine cndf (xAB ?_)
            repeat first|refine sgo ?_|refine sop ?_
            exact agn (Q := fun _ _ => True) (i + 1, o) ⟨by simp only; omega, by simp only [hst]; exact ho2⟩ (xA7 (h5 := by repeat' first|exact trivial|apply And.intro|(intro h; first|exact xGK h rfl|rfl)))
          | false =>
            rw [hey] at hem hst
            rw [if_neg (by simp)] at hst
            have hb := hbx hey
            have hmv := xKU (s := z) (to := m6) (fr := m5) hto hb (by omega) (by omega) (by omega) (by omega)
            repeat first|refine sgo ?_|refine cv0 hmt ?_|refine cv0 hem ?_|refine sop ?_
            refine cndt ?_
            repeat first|refine sgo ?_|refine cv0 hmv ?_|refine o_v (vap encS (xBV m6 m5 z)) ?_|refine sop ?_
            exact agn (Q := fun _ _ => True) (i + 1, o ++ [xBV m6 m5 z]) ⟨by simp only; omega, by simp only [hst, List.map_append, List.map_cons, List.map_nil]; rw [ho2, List.append_assoc]⟩ (xA7 (h5 := by repeat' first|exact trivial|apply And.intro|(intro h; first|exact xGK h rfl|rfl)))
        · have hge : i = d.length := by have h' := of_decide_eq_false h3; omega
          subst hge
          rw [List.take_length] at ho2
          rw [← ho2] at hnn hv htl hts' htn
          repeat first|refine sgo ?_|refine cf hnn ?_|refine sop ?_
          refine xA0 ?_
          repeat first|refine sgo ?_|refine sop ?_
          refine xCb (xBL (xAB ?_))
          refine xBL ?_
          repeat first|refine sgo ?_|refine sop ?_
          exact agL (j, xAV o) ⟨by simp only; omega, hv, htn, by simp only; omega, hts'⟩ (xA7 (h1 := by refine ⟨rfl, rfl, ?_, trivial⟩; exact congrArg (fun z => some (PV.int .i64 z)) (by simp only; omega)) (h5 := by repeat' first|exact trivial|apply And.intro|(intro h; first|exact xGK h rfl|rfl)))
      · rw [t45 (.inr rfl)] at hv htl hts' htn
        rw [g5 rfl] at c4
        have hto : m6 ≠ [] := (hne (.inr rfl)).2
        clear t12 t3 t6 t45 c1 c3
        generalize hG : xAw d (xCZ ⟨5, m2, m3, m4, m5, m6, m7⟩) = G0 at *
        rw [g5 rfl] at hG
        rw [hG] at c4
        repeat first|refine sgo ?_|refine sop ?_
        refine cndf ?_
        repeat first|refine sgo ?_|refine sop ?_
        refine cndf ?_
        repeat first|refine sgo ?_|refine sop ?_
        refine cndf ?_
        repeat first|refine sgo ?_|refine sop ?_
        refine cndf ?_
        repeat first|refine sgo ?_|refine sop ?_
        refine cndt ?_
        repeat first|refine sgo ?_|refine cv0 p1 ?_|refine sop ?_
        refine cndf (xAB ?_)
        repeat first|refine sgo ?_|refine sop ?_
        refine sqi (Imp.wr (t := 58) rfl (xAW rfl rfl)) ?_
        repeat first|refine sgo ?_|refine cl (lent := [⟨0, 1001⟩]) c4 ?_|refine sop ?_
        refine xAK (fun (g : Nat × List SpanL) => [(5, .ptr ⟨0, 1001⟩ 1 0 0), (18, .fn 48 [.ptr ⟨0, 1002⟩ 1 0 0]), (7, .ptr ⟨3, 24576⟩ 1 0 0), (9, .ptr ⟨3, 106520⟩ 1 0 0), (11, ownV ⟨3, 139280⟩ (g.2.map encS)), (60, .sh false (d.map encS)), (61, .int .i64 (d.map encS).length), (62, .int .i64 g.1)])
          (fun g => SH l d ++ [(⟨3, 24576⟩, ⟨true, false, 8, [encM ⟨5, m2, m3, m4, m5, m6, m7⟩]⟩), (⟨3, 106520⟩, ⟨true, false, 2, [encS (xAG m6)]⟩), (⟨3, 139280⟩, blkV 2 (g.2.map encS))]) (fun g => d.length - g.1)
          (fun g => g.1 ≤ d.length ∧ g.2 = G0 ++ (inTo ⟨5, m2, m3, m4, m5, m6, m7⟩ (d.take g.1)).map (xBV m6 m5)) (0, G0) (xA7 (h5 := by repeat' first|exact trivial|apply And.intro|(intro h; first|exact xGK h rfl|rfl))) ⟨Nat.zero_le _, by simp [inTo]⟩ ?_
        rintro ⟨i, o⟩ ⟨hi3, ho2⟩
        dsimp only at hi3 ho2 ⊢
        have hi2 := hit i
        have hol : o.length ≤ 1000 := by
          rw [List.length_take] at hi2
          rw [ho2, List.length_append, List.length_map]; omega
        have hdm : (d.map encS).length = d.length := List.length_map _
        repeat first|refine sgo ?_|refine sop ?_
        refine cnd (fun h3 => xAB ?_) (fun h3 => xAE ?_)
        · have hlt : i < d.length := by have h' := of_decide_eq_true h3; omega
          obtain ⟨x, hx2⟩ : ∃ m, d[i]? = some m := ⟨_, List.getElem?_eq_getElem hlt⟩
          have hxe2 := gm (enc := encS) (n := (i : Int)) hx2 (by omega)
          have hlt3 : (i : Int) < ((d.map encS).length : Nat) := by omega
          have hmt := xK2 x (xAG m6)
          have hem := xDn (xAt x (xAG m6))
          have hsx := hmsp x (List.mem_of_getElem? hx2)
          have hst := hstep i x hx2
          have hbx := hbeg x
          generalize xAt x (xAG m6) = z at *
          cases hey : xAJ z with
          | true =>
            rw [hey] at hem hst
            rw [if_pos rfl, List.append_nil] at hst
            repeat first|refine sgo ?_|refine cv0 hmt ?_|refine cv0 hem ?_|refine sop ?_
            refine cndf (xAB ?_)
            repeat first|refine sgo ?_|refine sop ?_
            exact agn (Q := fun _ _ => True) (i + 1, o) ⟨by simp only; omega, by simp only [hst]; exact ho2⟩ (xA7 (h5 := by repeat' first|exact trivial|apply And.intro|(intro h; first|exact xGK h rfl|rfl)))
          | false =>
            rw [hey] at hem hst
            rw [if_neg (by simp)] at hst
            have hb := hbx hey
            have hmv := xKU (s := z) (to := m6) (fr := m5) hto hb (by omega) (by omega) (by omega) (by omega)
            repeat first|refine sgo ?_|refine cv0 hmt ?_|refine cv0 hem ?_|refine sop ?_
            refine cndt ?_
            repeat first|refine sgo ?_|refine cv0 hmv ?_|refine o_v (vap encS (xBV m6 m5 z)) ?_|refine sop ?_
            exact agn (Q := fun _ _ => True) (i + 1, o ++ [xBV m6 m5 z]) ⟨by simp only; omega, by simp only [hst, List.map_append, List.map_cons, List.map_nil]; rw [ho2, List.append_assoc]⟩ (xA7 (h5 := by repeat' first|exact trivial|apply And.intro|(intro h; first|exact xGK h rfl|rfl)))
        · have hge : i = d.length := by have h' := of_decide_eq_false h3; omega
          subst hge
          rw [List.take_length] at ho2
          rw [← ho2] at hnn hv htl hts' htn
          repeat first|refine sgo ?_|refine cf hnn ?_|refine sop ?_
          refine xA0 ?_
          repeat first|refine sgo ?_|refine sop ?_
          refine xCb (xBL (xAB ?_))
          refine xBL ?_
          repeat first|refine sgo ?_|refine sop ?_
          exact agL (j, xAV o) ⟨by simp only; omega, hv, htn, by simp only; omega, hts'⟩ (xA7 (h1 := by refine ⟨rfl, rfl, ?_, trivial⟩; exact congrArg (fun z => some (PV.int .i64 z)) (by simp only; omega)) (h5 := by repeat' first|exact trivial|apply And.intro|(intro h; first|exact xGK h rfl|rfl)))
      · rw [t6 rfl] at hv htl hts' htn
        clear t12 t3 t6 t45 c1 c3 c4 g4 g5 hit hstep hbeg hmsp ps1 htot hnn hgl
        repeat first|refine sgo ?_|refine sop ?_
        refine cndf ?_
        repeat first|refine sgo ?_|refine sop ?_
        refine cndf ?_
        repeat first|refine sgo ?_|refine sop ?_
        refine cndf ?_
        repeat first|refine sgo ?_|refine sop ?_
        refine cndf ?_
        repeat first|refine sgo ?_|refine sop ?_
        refine cndf (xAB ?_)
        refine xA0 ?_
        repeat first|refine sgo ?_|refine sop ?_
        refine xCb (xBL (xAB ?_))
        refine xBL ?_
        repeat first|refine sgo ?_|refine sop ?_
        exact agL (j, d) ⟨by simp only; omega, hv, htn, by simp only; omega, hts'⟩ ((xA7 (h1 := by refine ⟨rfl, rfl, ?_, trivial⟩; exact congrArg (fun z => some (PV.int .i64 z)) (by simp only; omega)) (h5 := by repeat' first|exact trivial|apply And.intro|(intro h; first|exact xGK h rfl|rfl))))
    · have hi0 : i = 0 := by have h' := of_decide_eq_false h; omega
      subst hi0
      have hv : d = xBh s l.reverse := hv
      rw [← hv]
      exact mid0 () trivial xA7
  · intro _ _
    repeat first|refine sgo ?_|refine sop ?_
    exact xAC ⟨.inr rfl, oAny rfl⟩
end Go.Proofs
