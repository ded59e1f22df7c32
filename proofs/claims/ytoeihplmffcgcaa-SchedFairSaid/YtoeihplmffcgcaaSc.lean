/- Sc -/
import Derived.Test.YtoeihplmffcgcaaSb
import Derived.Test.YtoeihplmffcgcaaPu
open Go.V Go.Pu
set_option linter.unusedVariables false
set_option linter.unusedSimpArgs false
set_option maxRecDepth 20000
namespace Go.Proofs
/-! The fixed examples, run; the call of Run by what was proved of it. -/
def dL : PV → Option (List (List PV))
  | .nils => some []
  | .she => some []
  | .sh _ l => some l
  | _ => none
theorem dL_sl {p : PV} {l : List (List PV)} (h : dL p = some l) : Sl p l := by
  cases p <;> simp only [dL] at h <;> first
    | (cases h; exact .inl ⟨rfl, rfl⟩)
    | (cases h; exact .inr (.inl ⟨rfl, rfl⟩))
    | (cases h; exact Sl.sh)
    | cases h
def dIs : List (List PV) → Option (List Int)
  | [] => some []
  | [.int .i64 n] :: r => (dIs r).map (n :: ·)
  | _ => none
theorem dIs_ok : ∀ {l : List (List PV)} {xs : List Int}, dIs l = some xs → l = xs.map encI
  | [], xs, h => by cases h; rfl
  | e :: r, xs, h => by
    unfold dIs at h
    split at h
    · contradiction
    · rename_i he
      cases he
      obtain ⟨ys, hy, rfl⟩ := map_some h
      rw [dIs_ok hy]; rfl
    · cases h
def dJs : List (List PV) → Option (List JobL)
  | [] => some []
  | [.int .i64 a, .int .i64 b, .int .i64 c] :: r => (dJs r).map (⟨a, b, c⟩ :: ·)
  | _ => none
theorem dJs_ok : ∀ {l : List (List PV)} {xs : List JobL}, dJs l = some xs → l = xs.map encJ
  | [], xs, h => by cases h; rfl
  | e :: r, xs, h => by
    unfold dJs at h
    split at h
    · contradiction
    · rename_i he
      cases he
      obtain ⟨ys, hy, rfl⟩ := map_some h
      rw [dJs_ok hy]; rfl
    · cases h
def dQs : List (List PV) → Option (List (List JobL))
  | [] => some []
  | [p] :: r => ((dL p).bind dJs).bind fun js => (dQs r).map (js :: ·)
  | _ => none
theorem dQs_ok : ∀ {l : List (List PV)} {xs : List (List JobL)}, dQs l = some xs → l.length = xs.length ∧ ∀ (i : Nat) (q : List JobL), xs[i]? = some q → ∃ p, l[i]? = some [p] ∧ CLe p (.sh false (q.map encJ))
  | [], xs, h => by cases h; exact ⟨rfl, by simp⟩
  | e :: r, xs, h => by
    unfold dQs at h
    split at h
    · contradiction
    · rename_i he
      cases he
      obtain ⟨js, hjs, h⟩ := bind_some h
      obtain ⟨ys, hy, rfl⟩ := map_some h
      obtain ⟨l, hl, hjs⟩ := bind_some hjs
      obtain ⟨h1, h2⟩ := dQs_ok hy
      refine ⟨by simp [h1], fun i q hq => ?_⟩
      cases i with
      | zero =>
        simp at hq
        subst hq
        exact ⟨_, rfl, by rw [← dJs_ok hjs]; exact CLe.sl (dL_sl hl)⟩
      | succ i =>
        obtain ⟨p, hp, hc⟩ := h2 i q (by simpa using hq)
        exact ⟨p, by simpa using hp, hc⟩
    · cases h
def wfB (s : SchL) : Bool := decide (1 ≤ s.w.length) && decide (s.w.length ≤ 8) && decide (s.c.length = s.w.length) && decide (s.q.length = s.w.length) && decide (s.turn < s.w.length) && s.w.all (fun x => decide (1 ≤ x) && decide (x ≤ 100)) &&
  (List.range s.c.length).all (fun i => (s.c[i]?).all fun x => decide (0 ≤ x) && (decide (i = s.turn) || decide (x < 1000)) && decide (x < 1100)) &&
  (List.range s.q.length).all (fun i => (s.q[i]?).all fun l => l.all fun j => decide (1 ≤ j.c) && decide (j.c ≤ 1000) && decide (j.t = i)) && decide (waitL s.q ≤ 64)
theorem wfB_ok {s : SchL} (h : wfB s = true) : WF s := by
  simp only [wfB, Bool.and_eq_true, decide_eq_true_eq, List.all_eq_true, List.mem_range, Option.all_eq_true, Bool.or_eq_true] at h
  obtain ⟨⟨⟨⟨⟨⟨⟨⟨h1, h2⟩, h3⟩, h4⟩, h5⟩, h6⟩, h7⟩, h8⟩, h9⟩ := h
  refine ⟨h1, h2, h3, h4, h5, fun i x hx => h6 x (List.mem_of_getElem? hx), fun i x hx => ?_, fun i l hl j hj => ?_, h9⟩
  · have := h7 i (List.getElem?_eq_some_iff.1 hx).1 x hx
    exact ⟨this.1.1, fun hi => this.1.2.resolve_left hi, this.2⟩
  · have := h8 i (List.getElem?_eq_some_iff.1 hl).1 l hl j hj
    exact ⟨this.1.1, this.1.2, this.2⟩
def dSc : List PV → Option SchL
  | [p, q, .int .i64 t, r] => ((dL p).bind dIs).bind fun w => ((dL q).bind dIs).bind fun c => ((dL r).bind dQs).map fun z => ⟨w, c, t.toNat, z⟩
  | _ => none
theorem dSc_ok {cs : List PV} {s : SchL} (h : dSc cs = some s) (ht : ∀ p q t r, cs = [p, q, .int .i64 t, r] → 0 ≤ t) : PLe (.agg cs) (.agg (encSc s)) := by
  unfold dSc at h
  split at h
  · rename_i p q t r
    obtain ⟨w, hw, h⟩ := bind_some h
    obtain ⟨c, hc, h⟩ := bind_some h
    obtain ⟨z, hz, rfl⟩ := map_some h
    obtain ⟨l1, e1, hw⟩ := bind_some hw
    obtain ⟨l2, e2, hc⟩ := bind_some hc
    obtain ⟨l3, e3, hz⟩ := bind_some hz
    have h0 := ht _ _ _ _ rfl
    have a1 := dL_sl e1
    have a2 := dL_sl e2
    have a3 := dL_sl e3
    rw [dIs_ok hw] at a1
    rw [dIs_ok hc] at a2
    obtain ⟨b1, b2⟩ := dQs_ok hz
    have a4 : CLe (.sh false l3) (.sh false (z.map encQ)) := by
      refine CLe.sh (by simp [b1]) fun i e he => ?_
      rw [List.getElem?_map] at he
      obtain ⟨q', hq', rfl⟩ := map_some he
      obtain ⟨p', hp', hcl⟩ := b2 i q' hq'
      refine ⟨_, hp', rfl, fun j u hu => ?_⟩
      have hj : j = 0 := by have := (List.getElem?_eq_some_iff.1 hu).1; simp at this; omega
      subst hj
      simp at hu
      subst hu
      exact ⟨p', rfl, hcl⟩
    have a5 : CLe r (.sh false (z.map encQ)) := fun F w x hx => a4 F w x (CLe.sl a3 F w x hx)
    have : (t.toNat : Int) = t := by omega
    show PLe _ (.agg [_, _, .int .i64 (t.toNat : Int), _])
    rw [this]
    exact PLe.agg (.cons ((CLe.sl a1).s a1.closed) (.cons ((CLe.sl a2).s a2.closed) (.cons (SLe.refl _) (.cons (a5.s a3.closed) .nil))))
  · cases h
def orc : V.Call := fun f args hin => match Nat.beq f 12, args, hin with
  | true, [.agg [p, q, .int .i64 t, r], .int .i64 b], [] => (dSc [p, q, .int .i64 t, r]).bind fun s =>
    match wfB s && decide (0 ≤ t) && decide (-1000000000 ≤ b) && decide (b ≤ 1000000000), runF 400 s b [] with
    | true, some (s', l) => some (.tup [.agg (encSc s'), .sh false (l.map encJ)], [])
    | _, _ => none
  | _, _, _ => none
theorem orc_good : CallGood Try.prog orc := by
  intro f args hin v hout h
  unfold orc at h
  split at h
  · rename_i p q t r b hf
    obtain ⟨s, hs, h⟩ := bind_some h
    split at h
    · rename_i s' l hw hr
      cases h
      simp only [Bool.and_eq_true, decide_eq_true_eq] at hw
      have hf : f = 12 := Nat.eq_of_beq_eq_true hf
      subst hf
      refine vc_weak (run_vc (wfB_ok hw.1.1.1) ⟨400, hr⟩ hw.1.2 hw.2) (.cons (dSc_ok hs ?_) (.cons (PLe.refl _) .nil)) (PLe.refl _)
      rintro p' q' t' r' e
      cases e
      exact hw.1.1.2
    · cases h
  · cases h
theorem sanity_run : run Try.prog orc noX 200 20 10 [] [] = some (.bool true, []) := by kernel_rfl
theorem sanity_vc : VC Try.prog 10 [] [] (.bool true) [] := run_ok orc_good noX_good 20 _ _ _ _ _ sanity_run
end Go.Proofs
open Go.V Go.Pu
set_option linter.unusedVariables false
set_option linter.unusedSimpArgs false
set_option maxRecDepth 20000
namespace Go.Proofs
/-- downspout/downspoutlaw31.SchedJobs -/
def vc4 : VCode :=
 (.seq
 (.region 0 false [
 ⟨(some 2), .box (.t 0), none, 0, []⟩,
 ⟨(some 4), .copy (.c (.bool false)), none, 8, []⟩])
 (.seq
 (.region 1 false [
 ⟨(some 11), .call (.c (.fn 10 [])) [], none, 8192, []⟩,
 ⟨(some 5), .copy (.t 11), none, 8200, [0]⟩])
 (.seq
 (.region 2 false [
 ⟨(some 12), .load true 2 (.t 2), none, 16384, []⟩,
 ⟨(some 13), .call (.c (.fn 11 [])) [(.t 12)], none, 16392, [0]⟩,
 ⟨(some 6), .alloc [.nils, .nils, (.int .i64 0), .nils], none, 16400, []⟩,
 ⟨none, .store 4 (.t 6) (.t 13), none, 16408, [2, 1, 0]⟩])
 (.seq
 (.region 3 false [
 ⟨(some 15), .load true 4 (.t 6), none, 24576, []⟩,
 ⟨(some 16), .copy (.t 1), none, 24584, []⟩,
 ⟨(some 17), .conv .i64 (.t 16), none, 24592, [1]⟩,
 ⟨(some 18), .call (.c (.fn 12 [])) [(.t 15), (.t 17)], none, 24600, [0, 2, 1]⟩,
 ⟨(some 14), .copy (.t 18), none, 24608, [3, 0, 2, 1]⟩,
 ⟨(some 19), .extract (.t 14) 0, none, 24616, [4, 3, 0, 2, 1]⟩,
 ⟨(some 20), .extract (.t 14) 1, none, 24624, [4, 3, 0, 2, 1]⟩,
 ⟨(some 7), .alloc [.nils, .nils, (.int .i64 0), .nils], none, 24632, []⟩,
 ⟨none, .store 4 (.t 7) (.t 19), none, 24640, [7, 5, 4, 3, 0, 2, 1]⟩,
 ⟨(some 8), .copy (.t 20), none, 24648, [6, 4, 3, 0, 2, 1, 8, 7, 5]⟩])
 (.seq
 (.seq
 (.region 4 false [
 ⟨(some 21), .faddr 3 (.t 7), none, 32768, []⟩,
 ⟨(some 22), .load false 1 (.t 21), none, 32776, [0]⟩,
 ⟨(some 23), .len (.t 22), none, 32784, [1, 0]⟩,
 ⟨(some 24), .faddr 3 (.t 6), none, 32792, []⟩,
 ⟨(some 25), .load false 1 (.t 24), none, 32800, [3]⟩,
 ⟨(some 26), .len (.t 25), none, 32808, [4, 3]⟩,
 ⟨(some 27), .bin .neq (.t 23) (.t 26), none, 32816, [2, 1, 0, 5, 4, 3]⟩,
 ⟨(some 28), .copy (.t 27), none, 32824, [6, 2, 1, 0, 5, 4, 3]⟩,
 ⟨(some 29), .copy (.t 8), (some (7, 28, false)), 32832, [7, 6, 2, 1, 0, 5, 4, 3]⟩,
 ⟨(some 30), .len (.t 29), (some (7, 28, false)), 32840, [8, 7, 6, 2, 1, 0, 5, 4, 3]⟩,
 ⟨(some 31), .bin .gtr (.t 30) (.c (.int .i64 64)), (some (7, 28, false)), 32848, [9, 8, 7, 6, 2, 1, 0, 5, 4, 3]⟩,
 ⟨(some 32), .pick (.t 28) (.c (.bool true)) (.t 31), none, 32856, [7, 6, 2, 1, 0, 5, 4, 3, 10, 9, 8]⟩])
 (.cond (.t 32)
 (.seq
 (.region 5 false [
 ⟨(some 4), .copy (.c (.bool false)), none, 40960, []⟩])
 .ret)
 .skip))
 (.seq
 (.seq
 (.region 6 false [
 ⟨(some 9), .copy (.c (.int .i64 0)), none, 49152, []⟩])
 (.block 0
 (.loop
 (.seq
 (.seq
 (.region 7 false [
 ⟨(some 33), .copy (.t 9), none, 57344, []⟩,
 ⟨(some 34), .faddr 3 (.t 6), none, 57352, []⟩,
 ⟨(some 35), .load false 1 (.t 34), none, 57360, [1]⟩,
 ⟨(some 36), .len (.t 35), none, 57368, [2, 1]⟩,
 ⟨(some 37), .bin .lss (.t 33) (.t 36), none, 57376, [0, 3, 2, 1]⟩])
 (.cond (.t 37)
 .skip
 (.exit 0)))
 (.seq
 (.block 1
 (.seq
 (.region 9 false [
 ⟨(some 40), .copy (.t 8), none, 73728, []⟩,
 ⟨(some 41), .copy (.t 9), none, 73736, []⟩,
 ⟨(some 42), .call (.c (.fn 22 [])) [(.t 40), (.t 41)], none, 73744, [0, 1]⟩,
 ⟨(some 10), .copy (.t 42), none, 73752, [2, 0, 1]⟩])
 (.seq
 (.region 10 false [
 ⟨(some 43), .copy (.t 10), none, 81920, []⟩,
 ⟨(some 44), .faddr 3 (.t 7), none, 81928, []⟩,
 ⟨(some 45), .load false 1 (.t 44), none, 81936, [1]⟩,
 ⟨(some 46), .copy (.t 9), none, 81944, []⟩,
 ⟨(some 47), .iaddr 1 (.t 45) (.t 46), none, 81952, [2, 1, 3]⟩,
 ⟨(some 48), .load false 1 (.t 47), none, 81960, [4, 2, 1, 3]⟩,
 ⟨(some 49), .append 3 24 [(.int .i64 0), (.int .i64 0), (.int .i64 0)] (.t 43) (.t 48), none, 81968, [0, 5, 4, 2, 1, 3]⟩,
 ⟨(some 10), .copy (.t 49), none, 81976, [6, 0, 5, 4, 2, 1, 3]⟩])
 (.seq
 (.region 11 false [
 ⟨(some 50), .copy (.t 10), none, 90112, []⟩,
 ⟨(some 51), .faddr 3 (.t 6), none, 90120, []⟩,
 ⟨(some 52), .load false 1 (.t 51), none, 90128, [1]⟩,
 ⟨(some 53), .copy (.t 9), none, 90136, []⟩,
 ⟨(some 54), .iaddr 1 (.t 52) (.t 53), none, 90144, [2, 1, 3]⟩,
 ⟨(some 55), .load false 1 (.t 54), none, 90152, [4, 2, 1, 3]⟩,
 ⟨(some 56), .call (.c (.fn 17 [])) [(.t 50), (.t 55)], none, 90160, [0, 5, 4, 2, 1, 3]⟩,
 ⟨(some 57), .not (.t 56), none, 90168, [6, 0, 5, 4, 2, 1, 3]⟩])
 (.cond (.t 57)
 (.seq
 (.region 12 false [
 ⟨(some 4), .copy (.c (.bool false)), none, 98304, []⟩])
 .ret)
 .skip)))))
 (.region 8 false [
 ⟨(some 38), .copy (.t 9), none, 65536, []⟩,
 ⟨(some 39), .bin .add (.t 38) (.c (.int .i64 1)), none, 65544, [0]⟩,
 ⟨(some 9), .copy (.t 39), none, 65552, [1, 0]⟩]))))))
 (.seq
 (.region 13 false [
 ⟨(some 58), .copy (.t 5), none, 106496, []⟩,
 ⟨(some 4), .copy (.t 58), none, 106504, [0]⟩])
 .ret)))))))
theorem vf4 : VF Try.prog 4 = some (59, vc4, [.tmp 4]) := by kernel_rfl
/-- downspout/downspoutlaw31.SchedRefuses -/
def vc9 : VCode :=
 (.seq
 (.region 0 false [
 ⟨(some 3), .box (.t 0), none, 0, []⟩,
 ⟨(some 4), .box (.t 1), none, 8, []⟩,
 ⟨(some 6), .copy (.c (.bool false)), none, 16, []⟩])
 (.seq
 (.region 1 false [
 ⟨(some 16), .call (.c (.fn 10 [])) [], none, 8192, []⟩,
 ⟨(some 7), .copy (.t 16), none, 8200, [0]⟩])
 (.seq
 (.region 2 false [
 ⟨(some 17), .load true 2 (.t 3), none, 16384, []⟩,
 ⟨(some 18), .call (.c (.fn 11 [])) [(.t 17)], none, 16392, [0]⟩,
 ⟨(some 8), .alloc [.nils, .nils, (.int .i64 0), .nils], none, 16400, []⟩,
 ⟨none, .store 4 (.t 8) (.t 18), none, 16408, [2, 1, 0]⟩])
 (.seq
 (.region 3 false [
 ⟨(some 20), .load true 4 (.t 8), none, 24576, []⟩,
 ⟨(some 21), .load true 3 (.t 4), none, 24584, []⟩,
 ⟨(some 22), .call (.c (.fn 14 [])) [(.t 20), (.t 21)], none, 24592, [0, 1]⟩,
 ⟨(some 19), .copy (.t 22), none, 24600, [2, 0, 1]⟩,
 ⟨(some 23), .extract (.t 19) 0, none, 24608, [3, 2, 0, 1]⟩,
 ⟨(some 24), .extract (.t 19) 1, none, 24616, [3, 2, 0, 1]⟩,
 ⟨(some 9), .alloc [.nils, .nils, (.int .i64 0), .nils], none, 24624, []⟩,
 ⟨none, .store 4 (.t 9) (.t 23), none, 24632, [6, 4, 3, 2, 0, 1]⟩,
 ⟨(some 10), .copy (.t 24), none, 24640, [5, 3, 2, 0, 1, 7, 6, 4]⟩])
 (.seq
 (.region 4 false [
 ⟨(some 11), .copy (.c (.int .i64 0)), none, 32768, []⟩])
 (.seq
 (.block 0
 (.seq
 (.region 5 false [
 ⟨(some 26), .faddr 0 (.t 4), none, 40960, []⟩,
 ⟨(some 27), .load false 1 (.t 26), none, 40968, [0]⟩,
 ⟨(some 28), .bin .lss (.t 27) (.c (.int .i64 0)), none, 40976, [1, 0]⟩,
 ⟨(some 29), .copy (.t 28), none, 40984, [2, 1, 0]⟩,
 ⟨(some 30), .faddr 0 (.t 4), (some (3, 29, false)), 40992, [3, 2, 1, 0]⟩,
 ⟨(some 31), .load false 1 (.t 30), (some (3, 29, false)), 41000, [4, 3, 2, 1, 0]⟩,
 ⟨(some 32), .faddr 0 (.t 8), (some (3, 29, false)), 41008, [3, 2, 1, 0]⟩,
 ⟨(some 33), .load false 1 (.t 32), (some (3, 29, false)), 41016, [6, 3, 2, 1, 0]⟩,
 ⟨(some 34), .len (.t 33), (some (3, 29, false)), 41024, [7, 6, 3, 2, 1, 0]⟩,
 ⟨(some 35), .bin .geq (.t 31) (.t 34), (some (3, 29, false)), 41032, [5, 4, 3, 2, 1, 0, 8, 7, 6]⟩,
 ⟨(some 36), .pick (.t 29) (.c (.bool true)) (.t 35), none, 41040, [3, 2, 1, 0, 9, 5, 4, 8, 7, 6]⟩,
 ⟨(some 25), .copy (.t 36), none, 41048, [10, 3, 2, 1, 0, 9, 5, 4, 8, 7, 6]⟩])
 (.cond (.t 25)
 (.region 6 false [
 ⟨(some 11), .copy (.c (.int .i64 310)), none, 49152, []⟩])
 (.seq
 (.region 7 false [
 ⟨(some 38), .faddr 2 (.t 4), none, 57344, []⟩,
 ⟨(some 39), .load false 1 (.t 38), none, 57352, [0]⟩,
 ⟨(some 40), .bin .lss (.t 39) (.c (.int .i64 1)), none, 57360, [1, 0]⟩,
 ⟨(some 41), .copy (.t 40), none, 57368, [2, 1, 0]⟩,
 ⟨(some 42), .faddr 2 (.t 4), (some (3, 41, false)), 57376, [3, 2, 1, 0]⟩,
 ⟨(some 43), .load false 1 (.t 42), (some (3, 41, false)), 57384, [4, 3, 2, 1, 0]⟩,
 ⟨(some 44), .bin .gtr (.t 43) (.c (.int .i64 1000)), (some (3, 41, false)), 57392, [5, 4, 3, 2, 1, 0]⟩,
 ⟨(some 45), .pick (.t 41) (.c (.bool true)) (.t 44), none, 57400, [3, 2, 1, 0, 6, 5, 4]⟩,
 ⟨(some 37), .copy (.t 45), none, 57408, [7, 3, 2, 1, 0, 6, 5, 4]⟩])
 (.cond (.t 37)
 (.region 8 false [
 ⟨(some 11), .copy (.c (.int .i64 1)), none, 65536, []⟩])
 (.seq
 (.region 9 false [
 ⟨(some 47), .load true 4 (.t 8), none, 73728, []⟩,
 ⟨(some 48), .call (.c (.fn 19 [])) [(.t 47)], none, 73736, [0]⟩,
 ⟨(some 49), .bin .geq (.t 48) (.c (.int .i64 64)), none, 73744, [1, 0]⟩,
 ⟨(some 46), .copy (.t 49), none, 73752, [2, 1, 0]⟩])
 (.cond (.t 46)
 (.region 10 false [
 ⟨(some 11), .copy (.c (.int .i64 311)), none, 81920, []⟩])
 .skip)))))))
 (.seq
 (.seq
 (.region 11 true [
 ⟨(some 50), .copy (.t 10), none, 90112, []⟩,
 ⟨(some 51), .copy (.t 11), none, 90120, []⟩,
 ⟨(some 52), .bin .neq (.t 50) (.t 51), none, 90128, [0, 1]⟩,
 ⟨(some 53), .copy (.t 52), none, 90136, [2, 0, 1]⟩,
 ⟨(some 54), .copy (.t 10), (some (3, 53, false)), 90144, [3, 2, 0, 1]⟩,
 ⟨(some 55), .bin .neq (.t 54) (.c (.int .i64 0)), (some (3, 53, false)), 90152, [4, 3, 2, 0, 1]⟩,
 ⟨(some 56), .copy (.t 55), (some (3, 53, false)), 90160, [5, 4, 3, 2, 0, 1]⟩,
 ⟨(some 57), .load true 4 (.t 9), (some (6, 56, true)), 90168, [6, 5, 4, 3, 2, 0, 1]⟩,
 ⟨(some 58), .load true 4 (.t 8), (some (6, 56, true)), 90176, [6, 5, 4, 3, 2, 0, 1]⟩,
 ⟨(some 59), .call (.c (.fn 16 [])) [(.t 57), (.t 58)], (some (6, 56, true)), 90184, [7, 6, 5, 4, 3, 2, 0, 1, 8]⟩,
 ⟨(some 60), .not (.t 59), (some (6, 56, true)), 90192, [9, 7, 6, 5, 4, 3, 2, 0, 1, 8]⟩,
 ⟨(some 61), .pick (.t 56) (.t 60) (.c (.bool false)), (some (3, 53, false)), 90200, [6, 5, 4, 3, 2, 0, 1, 10, 9, 7, 8]⟩,
 ⟨(some 62), .pick (.t 53) (.c (.bool true)) (.t 61), none, 90208, [3, 2, 0, 1, 11, 6, 5, 4, 10, 9, 7, 8]⟩,
 ⟨(some 63), .copy (.t 62), none, 90216, [12, 3, 2, 0, 1, 11, 6, 5, 4, 10, 9, 7, 8]⟩,
 ⟨(some 64), .copy (.t 10), (some (13, 63, false)), 90224, [13, 12, 3, 2, 0, 1, 11, 6, 5, 4, 10, 9, 7, 8]⟩,
 ⟨(some 65), .bin .eql (.t 64) (.c (.int .i64 0)), (some (13, 63, false)), 90232, [14, 13, 12, 3, 2, 0, 1, 11, 6, 5, 4, 10, 9, 7, 8]⟩,
 ⟨(some 66), .copy (.t 65), (some (13, 63, false)), 90240, [15, 14, 13, 12, 3, 2, 0, 1, 11, 6, 5, 4, 10, 9, 7, 8]⟩,
 ⟨(some 67), .load true 4 (.t 9), (some (16, 66, true)), 90248, [16, 15, 14, 13, 12, 3, 2, 0, 1, 11, 6, 5, 4, 10, 9, 7, 8]⟩,
 ⟨(some 68), .call (.c (.fn 19 [])) [(.t 67)], (some (16, 66, true)), 90256, [17, 16, 15, 14, 13, 12, 3, 2, 0, 1, 11, 6, 5, 4, 10, 9, 7, 8]⟩,
 ⟨(some 69), .load true 4 (.t 8), (some (16, 66, true)), 90264, [16, 15, 14, 13, 12, 3, 2, 0, 1, 11, 6, 5, 4, 10, 9, 7, 8]⟩,
 ⟨(some 70), .call (.c (.fn 19 [])) [(.t 69)], (some (16, 66, true)), 90272, [19, 16, 15, 14, 13, 12, 3, 2, 0, 1, 11, 6, 5, 4, 10, 9, 7, 8, 18, 17]⟩,
 ⟨(some 71), .bin .add (.t 70) (.c (.int .i64 1)), (some (16, 66, true)), 90280, [20, 19, 16, 15, 14, 13, 12, 3, 2, 0, 1, 11, 6, 5, 4, 10, 9, 7, 8, 18, 17]⟩,
 ⟨(some 72), .bin .neq (.t 68) (.t 71), (some (16, 66, true)), 90288, [18, 17, 16, 15, 14, 13, 12, 3, 2, 0, 1, 11, 6, 5, 4, 10, 9, 7, 8, 21, 20, 19]⟩,
 ⟨(some 73), .pick (.t 66) (.t 72) (.c (.bool false)), (some (13, 63, false)), 90296, [16, 15, 14, 13, 12, 3, 2, 0, 1, 11, 6, 5, 4, 10, 9, 7, 8, 22, 18, 17, 21, 20, 19]⟩,
 ⟨(some 74), .pick (.t 63) (.c (.bool true)) (.t 73), none, 90304, [13, 12, 3, 2, 0, 1, 11, 6, 5, 4, 10, 9, 7, 8, 23, 16, 15, 14, 22, 18, 17, 21, 20, 19]⟩])
 (.cond (.t 74)
 (.seq
 (.region 12 false [
 ⟨(some 6), .copy (.c (.bool false)), none, 98304, []⟩])
 .ret)
 .skip))
 (.seq
 (.region 13 false [
 ⟨(some 75), .bslice 1 [(.int .i64 0)] 0 [], none, 106496, []⟩,
 ⟨(some 12), .copy (.t 75), none, 106504, [0]⟩])
 (.seq
 (.seq
 (.region 14 false [
 ⟨(some 13), .copy (.c (.int .i64 0)), none, 114688, []⟩])
 (.block 1
 (.loop
 (.seq
 (.seq
 (.region 15 false [
 ⟨(some 76), .copy (.t 13), none, 122880, []⟩,
 ⟨(some 77), .copy (.t 2), none, 122888, []⟩,
 ⟨(some 78), .conv .i64 (.t 77), none, 122896, [1]⟩,
 ⟨(some 79), .bin .rem (.t 78) (.c (.int .i64 10)), none, 122904, [2, 1]⟩,
 ⟨(some 80), .bin .lss (.t 76) (.t 79), none, 122912, [0, 3, 2, 1]⟩])
 (.cond (.t 80)
 .skip
 (.exit 1)))
 (.seq
 (.block 2
 (.region 17 false [
 ⟨(some 83), .copy (.t 12), none, 139264, []⟩,
 ⟨(some 84), .copy (.t 2), none, 139272, []⟩,
 ⟨(some 85), .conv .i64 (.t 84), none, 139280, [1]⟩,
 ⟨(some 86), .bin .rem (.t 85) (.c (.int .i64 100)), none, 139288, [2, 1]⟩,
 ⟨(some 87), .bin .add (.c (.int .i64 1)) (.t 86), none, 139296, [3, 2, 1]⟩,
 ⟨(some 88), .bslice 1 [(.int .i64 0)] 1 [(0, (.t 87))], none, 139304, [4, 3, 2, 1]⟩,
 ⟨(some 89), .append 1 8 [(.int .i64 0)] (.t 83) (.t 88), none, 139312, [0, 5, 4, 3, 2, 1]⟩,
 ⟨(some 12), .copy (.t 89), none, 139320, [6, 0, 5, 4, 3, 2, 1]⟩]))
 (.region 16 false [
 ⟨(some 81), .copy (.t 13), none, 131072, []⟩,
 ⟨(some 82), .bin .add (.t 81) (.c (.int .i64 1)), none, 131080, [0]⟩,
 ⟨(some 13), .copy (.t 82), none, 131088, [1, 0]⟩]))))))
 (.seq
 (.region 18 false [
 ⟨(some 91), .copy (.t 12), none, 147456, []⟩,
 ⟨(some 92), .call (.c (.fn 20 [])) [(.t 91)], none, 147464, [0]⟩,
 ⟨(some 90), .copy (.t 92), none, 147472, [1, 0]⟩,
 ⟨(some 93), .extract (.t 90) 0, none, 147480, [2, 1, 0]⟩,
 ⟨(some 94), .extract (.t 90) 1, none, 147488, [2, 1, 0]⟩,
 ⟨(some 14), .alloc [.nils, .nils, (.int .i64 0), .nils], none, 147496, []⟩,
 ⟨none, .store 4 (.t 14) (.t 93), none, 147504, [5, 3, 2, 1, 0]⟩,
 ⟨(some 15), .copy (.t 94), none, 147512, [4, 2, 1, 0, 6, 5, 3]⟩])
 (.seq
 (.region 19 false [
 ⟨(some 95), .copy (.t 15), none, 155648, []⟩,
 ⟨(some 96), .bin .eql (.t 95) (.c (.int .i64 0)), none, 155656, [0]⟩,
 ⟨(some 97), .copy (.t 12), none, 155664, []⟩,
 ⟨(some 98), .len (.t 97), none, 155672, [2]⟩,
 ⟨(some 99), .bin .geq (.t 98) (.c (.int .i64 1)), none, 155680, [3, 2]⟩,
 ⟨(some 100), .copy (.t 99), none, 155688, [4, 3, 2]⟩,
 ⟨(some 101), .copy (.t 12), (some (5, 100, true)), 155696, [5, 4, 3, 2]⟩,
 ⟨(some 102), .len (.t 101), (some (5, 100, true)), 155704, [6, 5, 4, 3, 2]⟩,
 ⟨(some 103), .bin .leq (.t 102) (.c (.int .i64 8)), (some (5, 100, true)), 155712, [7, 6, 5, 4, 3, 2]⟩,
 ⟨(some 104), .pick (.t 100) (.t 103) (.c (.bool false)), none, 155720, [5, 4, 3, 2, 8, 7, 6]⟩,
 ⟨(some 105), .eqb false (.t 96) (.t 104), none, 155728, [1, 0, 9, 5, 4, 3, 2, 8, 7, 6]⟩,
 ⟨(some 106), .copy (.t 105), none, 155736, [10, 1, 0, 9, 5, 4, 3, 2, 8, 7, 6]⟩,
 ⟨(some 107), .copy (.t 7), (some (11, 106, true)), 155744, [11, 10, 1, 0, 9, 5, 4, 3, 2, 8, 7, 6]⟩,
 ⟨(some 108), .pick (.t 106) (.t 107) (.c (.bool false)), none, 155752, [11, 10, 1, 0, 9, 5, 4, 3, 2, 8, 7, 6, 12]⟩,
 ⟨(some 6), .copy (.t 108), none, 155760, [13, 11, 10, 1, 0, 9, 5, 4, 3, 2, 8, 7, 6, 12]⟩])
 .ret)))))))))))
theorem vf9 : VF Try.prog 9 = some (109, vc9, [.tmp 6]) := by kernel_rfl
theorem wait_ok {s : SchL} (h : WF s) : s.q.length ≤ 1000000 ∧ waitL s.q ≤ 1000000 := ⟨by have := h.n8; have := h.lq; omega, by have := h.wt; omega⟩
theorem emptyL_small : Small emptyL := ⟨by simp [emptyL], by simp [emptyL], by simp [emptyL], by simp [emptyL]⟩
set_option maxHeartbeats 4000000 in
theorem refuses_vc {x : RawL} (hx : RawOk x) (j : JobL) {n : Nat} (hn : n < 256) : VC Try.prog 9 [.agg (encRaw x), .agg (encJ j), .int .u8 n] [] (.bool true) [] := by
  have hw := madeL_wf x
  have hm := made_vc hx
  have hadd := add_vc hw j
  have hws := addR_wf hw j
  have hsm := same_vc (WF.small hw) (WF.small hw)
  have hsd : (!decide (madeL x = madeL x)) = false := by simp
  have hwt := rwaiting_vc (s := madeL x) (wait_ok hw).1 (wait_ok hw).2
  have hwl : ((madeL x).w.map encI).length = (madeL x).w.length := by simp
  have c1 : IntKind.i64.wrap (n : Int) = n := wrap64 (by omega) (by omega)
  have c2 : Int.tmod (n : Int) 10 = ((n % 10 : Nat) : Int) := by rw [Int.tmod_eq_emod_of_nonneg (by omega)]; push_cast; rfl
  have c3 : Int.tmod (n : Int) 100 = ((n % 100 : Nat) : Int) := by rw [Int.tmod_eq_emod_of_nonneg (by omega)]; push_cast; rfl
  have hnw := new_vc (w := List.replicate (n % 10) (wtL n)) (by simp; omega)
  have hne : ((newR (List.replicate (n % 10) (wtL n))).2 == 0) = (decide (1 ≤ n % 10) && decide (n % 10 ≤ 8)) := by
    by_cases h : 1 ≤ n % 10 ∧ n % 10 ≤ 8
    · rw [newR_ok (by simp; omega) (by simp; omega) (by intro y hy; rw [List.eq_of_mem_replicate hy]; exact wtL_b n)]
      simp [h.1, h.2]
    · unfold newR
      rw [if_pos (by rw [List.length_replicate]; omega)]
      simp
      omega
  -- what is wanted
  have hr : (((addR (madeL x) j).2 = 310 ∧ (addR (madeL x) j).1 = madeL x) ∧ (decide (j.t < 0) = true ∨ (decide (j.t < 0) = false ∧ decide (j.t ≥ (((madeL x).w.map encI).length : Int)) = true))) ∨
      ((decide (j.t < 0) = false ∧ decide (j.t ≥ (((madeL x).w.map encI).length : Int)) = false) ∧ (((addR (madeL x) j).2 = 1 ∧ (addR (madeL x) j).1 = madeL x) ∧ (decide (j.c < 1) = true ∨ (decide (j.c < 1) = false ∧ decide (j.c > 1000) = true)) ∨
      ((decide (j.c < 1) = false ∧ decide (j.c > 1000) = false) ∧ (((addR (madeL x) j).2 = 311 ∧ (addR (madeL x) j).1 = madeL x) ∧ decide ((waitL (madeL x).q : Int) ≥ 64) = true ∨ ((addR (madeL x) j).2 = 0 ∧ waitL (addR (madeL x) j).1.q = waitL (madeL x).q + 1) ∧ decide ((waitL (madeL x).q : Int) ≥ 64) = false)))) := by
    rw [hwl]
    unfold addR
    by_cases h0 : j.t < 0 ∨ ((madeL x).w.length : Int) ≤ j.t
    · rw [if_pos h0]
      refine .inl ⟨⟨rfl, rfl⟩, ?_⟩
      by_cases h : j.t < 0
      · exact .inl (by simpa using h)
      · exact .inr ⟨by simpa using h, by simpa using h0.resolve_left h⟩
    rw [if_neg h0]
    refine .inr ⟨⟨by simp; omega, by simp; omega⟩, ?_⟩
    by_cases h1 : j.c < 1 ∨ 1000 < j.c
    · rw [if_pos h1]
      refine .inl ⟨⟨rfl, rfl⟩, ?_⟩
      by_cases h : j.c < 1
      · exact .inl (by simpa using h)
      · exact .inr ⟨by simpa using h, by simpa using h1.resolve_left h⟩
    rw [if_neg h1]
    refine .inr ⟨⟨by simp; omega, by simp; omega⟩, ?_⟩
    by_cases h2 : 64 ≤ waitL (madeL x).q
    · rw [if_pos h2]
      exact .inl ⟨⟨rfl, rfl⟩, by simp; omega⟩
    rw [if_neg h2]
    refine .inr ⟨⟨rfl, ?_⟩, by simp; omega⟩
    have hlq := hw.lq
    obtain ⟨y, hy⟩ : ∃ y, (madeL x).q[j.t.toNat]? = some y := ⟨_, List.getElem?_eq_getElem (by omega)⟩
    have := waitL_set (y := y ++ [j]) hy
    simp only [addL, hy, Option.getD_some, List.length_append, List.length_cons, List.length_nil] at this ⊢
    omega
  generalize addR (madeL x) j = r at hadd hws hr
  obtain ⟨a, e⟩ := r
  dsimp only at hadd hws hr
  refine vc_of vf9 ?_ (Nat.le_of_ble_eq_true rfl) (by intro vs h; cases h)
  refine ct_seq (rg ?_)
  repeat first | refine o_copy ?_ | refine o_loads ?_ | refine o_loadp ?_ | refine o_faddr ?_ | refine o_add ?_ | refine o_cat ?_ | refine o_bin ?_ | refine o_lenq ?_ | refine o_len ?_ | refine o_loadsA ?_ | refine o_loadpA ?_ | refine o_box ?_ | refine o_alloc ?_ | refine o_bslice ?_ | refine o_store ?_ | refine o_not ?_ | refine o_pickt ?_ | refine o_pickf ?_ | refine o_extract ?_ | refine o_eqb ?_ | refine skF ?_ | refine skU ?_
  refine nl (ct_seq (rg ?_))
  repeat first | refine o_copy ?_ | refine cv0 sanity_vc ?_ | refine o_loads ?_ | refine o_loadp ?_ | refine o_faddr ?_ | refine o_add ?_ | refine o_cat ?_ | refine o_bin ?_ | refine o_lenq ?_ | refine o_len ?_ | refine o_loadsA ?_ | refine o_loadpA ?_ | refine o_box ?_ | refine o_alloc ?_ | refine o_bslice ?_ | refine o_store ?_ | refine o_not ?_ | refine o_pickt ?_ | refine o_pickf ?_ | refine o_extract ?_ | refine o_eqb ?_ | refine skF ?_ | refine skU ?_
  refine nl (ct_seq (rg ?_))
  repeat first | refine o_copy ?_ | refine cf hm ?_ | refine o_loads ?_ | refine o_loadp ?_ | refine o_faddr ?_ | refine o_add ?_ | refine o_cat ?_ | refine o_bin ?_ | refine o_lenq ?_ | refine o_len ?_ | refine o_loadsA ?_ | refine o_loadpA ?_ | refine o_box ?_ | refine o_alloc ?_ | refine o_bslice ?_ | refine o_store ?_ | refine o_not ?_ | refine o_pickt ?_ | refine o_pickf ?_ | refine o_extract ?_ | refine o_eqb ?_ | refine skF ?_ | refine skU ?_
  refine nl (ct_seq (rg ?_))
  repeat first | refine o_copy ?_ | refine cf hadd ?_ | refine o_loads ?_ | refine o_loadp ?_ | refine o_faddr ?_ | refine o_add ?_ | refine o_cat ?_ | refine o_bin ?_ | refine o_lenq ?_ | refine o_len ?_ | refine o_loadsA ?_ | refine o_loadpA ?_ | refine o_box ?_ | refine o_alloc ?_ | refine o_bslice ?_ | refine o_store ?_ | refine o_not ?_ | refine o_pickt ?_ | refine o_pickf ?_ | refine o_extract ?_ | refine o_eqb ?_ | refine skF ?_ | refine skU ?_
  refine nl (ct_seq (rg ?_))
  repeat first | refine o_copy ?_ | refine o_loads ?_ | refine o_loadp ?_ | refine o_faddr ?_ | refine o_add ?_ | refine o_cat ?_ | refine o_bin ?_ | refine o_lenq ?_ | refine o_len ?_ | refine o_loadsA ?_ | refine o_loadpA ?_ | refine o_box ?_ | refine o_alloc ?_ | refine o_bslice ?_ | refine o_store ?_ | refine o_not ?_ | refine o_pickt ?_ | refine o_pickf ?_ | refine o_extract ?_ | refine o_eqb ?_ | refine skF ?_ | refine skU ?_
  refine nl ?_
  refine ct_mid (lvl := 1) (fun (_ : Unit) => [(2, .int .u8 n), (7, .bool true), (8, .ptr ⟨1, 16400⟩ 1 0 0), (9, .ptr ⟨1, 24624⟩ 1 0 0), (10, .int .i64 e), (11, .int .i64 e)]) (fun _ => [(⟨1, 16400⟩, ⟨true, false, 4, [encSc (madeL x)]⟩), (⟨1, 24624⟩, ⟨true, false, 4, [encSc a]⟩)]) (fun _ => True) ?_ ?_
  · rcases hr with ⟨⟨rfl, rfl⟩, g0⟩ | ⟨⟨g0, g1⟩, hr⟩
    · rcases g0 with g0 | ⟨g0, g1⟩
      · repeat first | refine o_copy ?_ | refine nl ?_ | refine ct_seq ?_ | refine rg ?_ | refine ct_block ?_ | refine bq ?_ | refine o_loads ?_ | refine o_loadp ?_ | refine o_faddr ?_ | refine o_add ?_ | refine o_cat ?_ | refine o_bin ?_ | refine o_lenq ?_ | refine o_len ?_ | refine o_loadsA ?_ | refine o_loadpA ?_ | refine o_box ?_ | refine o_alloc ?_ | refine o_bslice ?_ | refine o_store ?_ | refine o_not ?_ | refine o_pickt ?_ | refine o_pickf ?_ | refine o_extract ?_ | refine o_eqb ?_ | refine skF ?_ | refine skU ?_
        refine cndt ?_
        repeat first | refine o_copy ?_ | refine nl ?_ | refine ct_seq ?_ | refine rg ?_ | refine ct_block ?_ | refine bq ?_ | refine o_loads ?_ | refine o_loadp ?_ | refine o_faddr ?_ | refine o_add ?_ | refine o_cat ?_ | refine o_bin ?_ | refine o_lenq ?_ | refine o_len ?_ | refine o_loadsA ?_ | refine o_loadpA ?_ | refine o_box ?_ | refine o_alloc ?_ | refine o_bslice ?_ | refine o_store ?_ | refine o_not ?_ | refine o_pickt ?_ | refine o_pickf ?_ | refine o_extract ?_ | refine o_eqb ?_ | refine skF ?_ | refine skU ?_
        exact mid0 () trivial goesD
      · repeat first | refine o_copy ?_ | refine nl ?_ | refine ct_seq ?_ | refine rg ?_ | refine ct_block ?_ | refine bq ?_ | refine o_loads ?_ | refine o_loadp ?_ | refine o_faddr ?_ | refine o_add ?_ | refine o_cat ?_ | refine o_bin ?_ | refine o_lenq ?_ | refine o_len ?_ | refine o_loadsA ?_ | refine o_loadpA ?_ | refine o_box ?_ | refine o_alloc ?_ | refine o_bslice ?_ | refine o_store ?_ | refine o_not ?_ | refine o_pickt ?_ | refine o_pickf ?_ | refine o_extract ?_ | refine o_eqb ?_ | refine skF ?_ | refine skU ?_
        refine cndt ?_
        repeat first | refine o_copy ?_ | refine nl ?_ | refine ct_seq ?_ | refine rg ?_ | refine ct_block ?_ | refine bq ?_ | refine o_loads ?_ | refine o_loadp ?_ | refine o_faddr ?_ | refine o_add ?_ | refine o_cat ?_ | refine o_bin ?_ | refine o_lenq ?_ | refine o_len ?_ | refine o_loadsA ?_ | refine o_loadpA ?_ | refine o_box ?_ | refine o_alloc ?_ | refine o_bslice ?_ | refine o_store ?_ | refine o_not ?_ | refine o_pickt ?_ | refine o_pickf ?_ | refine o_extract ?_ | refine o_eqb ?_ | refine skF ?_ | refine skU ?_
        exact mid0 () trivial goesD
    repeat first | refine o_copy ?_ | refine nl ?_ | refine ct_seq ?_ | refine rg ?_ | refine ct_block ?_ | refine bq ?_ | refine o_loads ?_ | refine o_loadp ?_ | refine o_faddr ?_ | refine o_add ?_ | refine o_cat ?_ | refine o_bin ?_ | refine o_lenq ?_ | refine o_len ?_ | refine o_loadsA ?_ | refine o_loadpA ?_ | refine o_box ?_ | refine o_alloc ?_ | refine o_bslice ?_ | refine o_store ?_ | refine o_not ?_ | refine o_pickt ?_ | refine o_pickf ?_ | refine o_extract ?_ | refine o_eqb ?_ | refine skF ?_ | refine skU ?_
    refine cndf ?_
    rcases hr with ⟨⟨rfl, rfl⟩, g2⟩ | ⟨⟨g2, g3⟩, hr⟩
    · rcases g2 with g2 | ⟨g2, g3⟩
      · repeat first | refine o_copy ?_ | refine nl ?_ | refine ct_seq ?_ | refine rg ?_ | refine ct_block ?_ | refine bq ?_ | refine o_loads ?_ | refine o_loadp ?_ | refine o_faddr ?_ | refine o_add ?_ | refine o_cat ?_ | refine o_bin ?_ | refine o_lenq ?_ | refine o_len ?_ | refine o_loadsA ?_ | refine o_loadpA ?_ | refine o_box ?_ | refine o_alloc ?_ | refine o_bslice ?_ | refine o_store ?_ | refine o_not ?_ | refine o_pickt ?_ | refine o_pickf ?_ | refine o_extract ?_ | refine o_eqb ?_ | refine skF ?_ | refine skU ?_
        refine cndt ?_
        repeat first | refine o_copy ?_ | refine nl ?_ | refine ct_seq ?_ | refine rg ?_ | refine ct_block ?_ | refine bq ?_ | refine o_loads ?_ | refine o_loadp ?_ | refine o_faddr ?_ | refine o_add ?_ | refine o_cat ?_ | refine o_bin ?_ | refine o_lenq ?_ | refine o_len ?_ | refine o_loadsA ?_ | refine o_loadpA ?_ | refine o_box ?_ | refine o_alloc ?_ | refine o_bslice ?_ | refine o_store ?_ | refine o_not ?_ | refine o_pickt ?_ | refine o_pickf ?_ | refine o_extract ?_ | refine o_eqb ?_ | refine skF ?_ | refine skU ?_
        exact mid0 () trivial goesD
      · repeat first | refine o_copy ?_ | refine nl ?_ | refine ct_seq ?_ | refine rg ?_ | refine ct_block ?_ | refine bq ?_ | refine o_loads ?_ | refine o_loadp ?_ | refine o_faddr ?_ | refine o_add ?_ | refine o_cat ?_ | refine o_bin ?_ | refine o_lenq ?_ | refine o_len ?_ | refine o_loadsA ?_ | refine o_loadpA ?_ | refine o_box ?_ | refine o_alloc ?_ | refine o_bslice ?_ | refine o_store ?_ | refine o_not ?_ | refine o_pickt ?_ | refine o_pickf ?_ | refine o_extract ?_ | refine o_eqb ?_ | refine skF ?_ | refine skU ?_
        refine cndt ?_
        repeat first | refine o_copy ?_ | refine nl ?_ | refine ct_seq ?_ | refine rg ?_ | refine ct_block ?_ | refine bq ?_ | refine o_loads ?_ | refine o_loadp ?_ | refine o_faddr ?_ | refine o_add ?_ | refine o_cat ?_ | refine o_bin ?_ | refine o_lenq ?_ | refine o_len ?_ | refine o_loadsA ?_ | refine o_loadpA ?_ | refine o_box ?_ | refine o_alloc ?_ | refine o_bslice ?_ | refine o_store ?_ | refine o_not ?_ | refine o_pickt ?_ | refine o_pickf ?_ | refine o_extract ?_ | refine o_eqb ?_ | refine skF ?_ | refine skU ?_
        exact mid0 () trivial goesD
    repeat first | refine o_copy ?_ | refine nl ?_ | refine ct_seq ?_ | refine rg ?_ | refine ct_block ?_ | refine bq ?_ | refine o_loads ?_ | refine o_loadp ?_ | refine o_faddr ?_ | refine o_add ?_ | refine o_cat ?_ | refine o_bin ?_ | refine o_lenq ?_ | refine o_len ?_ | refine o_loadsA ?_ | refine o_loadpA ?_ | refine o_box ?_ | refine o_alloc ?_ | refine o_bslice ?_ | refine o_store ?_ | refine o_not ?_ | refine o_pickt ?_ | refine o_pickf ?_ | refine o_extract ?_ | refine o_eqb ?_ | refine skF ?_ | refine skU ?_
    refine cndf ?_
    repeat first | refine o_copy ?_ | refine nl ?_ | refine ct_seq ?_ | refine rg ?_ | refine ct_block ?_ | refine bq ?_ | refine cv0 hwt ?_ | refine o_loads ?_ | refine o_loadp ?_ | refine o_faddr ?_ | refine o_add ?_ | refine o_cat ?_ | refine o_bin ?_ | refine o_lenq ?_ | refine o_len ?_ | refine o_loadsA ?_ | refine o_loadpA ?_ | refine o_box ?_ | refine o_alloc ?_ | refine o_bslice ?_ | refine o_store ?_ | refine o_not ?_ | refine o_pickt ?_ | refine o_pickf ?_ | refine o_extract ?_ | refine o_eqb ?_ | refine skF ?_ | refine skU ?_
    rcases hr with ⟨⟨rfl, rfl⟩, g4⟩ | ⟨⟨rfl, h5⟩, g4⟩
    · refine cndt ?_
      repeat first | refine o_copy ?_ | refine nl ?_ | refine ct_seq ?_ | refine rg ?_ | refine ct_block ?_ | refine bq ?_ | refine o_loads ?_ | refine o_loadp ?_ | refine o_faddr ?_ | refine o_add ?_ | refine o_cat ?_ | refine o_bin ?_ | refine o_lenq ?_ | refine o_len ?_ | refine o_loadsA ?_ | refine o_loadpA ?_ | refine o_box ?_ | refine o_alloc ?_ | refine o_bslice ?_ | refine o_store ?_ | refine o_not ?_ | refine o_pickt ?_ | refine o_pickf ?_ | refine o_extract ?_ | refine o_eqb ?_ | refine skF ?_ | refine skU ?_
      exact mid0 () trivial goesD
    · refine cndf (ct_skip ?_)
      exact mid0 () trivial goesD
  rintro ⟨⟩ _
  have hwa := rwaiting_vc (s := a) (wait_ok hws).1 (wait_ok hws).2
  have hz : (e ≠ 0 ∧ a = madeL x) ∨ (e = 0 ∧ waitL a.q = waitL (madeL x).q + 1) := by
    rcases hr with ⟨⟨rfl, rfl⟩, _⟩ | ⟨_, ⟨⟨rfl, rfl⟩, _⟩ | ⟨_, ⟨⟨rfl, rfl⟩, _⟩ | ⟨⟨rfl, h5⟩, _⟩⟩⟩
    · exact .inl ⟨by decide, rfl⟩
    · exact .inl ⟨by decide, rfl⟩
    · exact .inl ⟨by decide, rfl⟩
    · exact .inr ⟨rfl, h5⟩
  have f0 : (e != e) = false := by simp
  refine ct_seq (ct_mid (lvl := 1) (fun (v : Bool) => [(2, .int .u8 n), (7, .bool true), (74, .bool v)]) (fun _ => []) (fun v => v = false) (rg ?_) ?_)
  · rcases hz with ⟨h1, rfl⟩ | ⟨rfl, h1⟩
    · have f1 : (e != 0) = true := by simpa using h1
      have f2 : (e == 0) = false := by simpa using h1
      repeat first | refine o_copy ?_ | refine cv0 hsm ?_ | refine o_loads ?_ | refine o_loadp ?_ | refine o_faddr ?_ | refine o_add ?_ | refine o_cat ?_ | refine o_bin ?_ | refine o_lenq ?_ | refine o_len ?_ | refine o_loadsA ?_ | refine o_loadpA ?_ | refine o_box ?_ | refine o_alloc ?_ | refine o_bslice ?_ | refine o_store ?_ | refine o_not ?_ | refine o_pickt ?_ | refine o_pickf ?_ | refine o_extract ?_ | refine o_eqb ?_ | refine skF ?_ | refine skU ?_
      exact nl (mid0 false rfl goesD)
    · have hb := (wait_ok hw).2
      have f3 : IntKind.i64.wrap ((waitL (madeL x).q : Int) + 1) = (waitL a.q : Int) := by
        rw [h1]
        exact (wrap64 (by omega) (by omega)).trans (by omega)
      have f4 : ((waitL a.q : Int) != (waitL a.q : Int)) = false := by simp
      repeat first | refine o_copy ?_ | refine cv0 hwa ?_ | refine cv0 hwt ?_ | refine o_addE ?_ | refine o_loads ?_ | refine o_loadp ?_ | refine o_faddr ?_ | refine o_add ?_ | refine o_cat ?_ | refine o_bin ?_ | refine o_lenq ?_ | refine o_len ?_ | refine o_loadsA ?_ | refine o_loadpA ?_ | refine o_box ?_ | refine o_alloc ?_ | refine o_bslice ?_ | refine o_store ?_ | refine o_not ?_ | refine o_pickt ?_ | refine o_pickf ?_ | refine o_extract ?_ | refine o_eqb ?_ | refine skF ?_ | refine skU ?_
      exact nl (mid0 ((waitL a.q : Int) != (waitL a.q : Int)) f4 goesD)
  rintro _ rfl
  refine cndf (ct_skip ?_)
  repeat first | refine o_copy ?_ | refine nl ?_ | refine ct_seq ?_ | refine rg ?_ | refine ct_block ?_ | refine bq ?_ | refine o_loads ?_ | refine o_loadp ?_ | refine o_faddr ?_ | refine o_add ?_ | refine o_cat ?_ | refine o_bin ?_ | refine o_lenq ?_ | refine o_len ?_ | refine o_loadsA ?_ | refine o_loadpA ?_ | refine o_box ?_ | refine o_alloc ?_ | refine o_bslice ?_ | refine o_store ?_ | refine o_not ?_ | refine o_pickt ?_ | refine o_pickf ?_ | refine o_extract ?_ | refine o_eqb ?_ | refine skF ?_ | refine skU ?_
  refine ct_loopG (fun (g : Nat) => [(2, .int .u8 n), (7, .bool true), (12, ownV ⟨1, 106496⟩ ((List.replicate g (wtL n)).map encI)), (13, .int .i64 g)]) (fun g => [(⟨1, 106496⟩, blkV 1 ((List.replicate g (wtL n)).map encI))]) (fun g => n % 10 - g) (fun g => g ≤ n % 10) 0 goesD (Nat.zero_le _) ?_
  intro i hi
  have z1 : (List.replicate i (wtL n)).length = i := by simp
  by_cases hlt : i < n % 10
  · have g1 : decide ((i : Int) < ((n % 10 : Nat) : Int)) = true := by simp; omega
    repeat first | refine o_copy ?_ | refine nl ?_ | refine ct_seq ?_ | refine rg ?_ | refine ct_block ?_ | refine bq ?_ | refine o_convE ?_ | refine o_rem ?_ | refine o_loads ?_ | refine o_loadp ?_ | refine o_faddr ?_ | refine o_add ?_ | refine o_cat ?_ | refine o_bin ?_ | refine o_lenq ?_ | refine o_len ?_ | refine o_loadsA ?_ | refine o_loadpA ?_ | refine o_box ?_ | refine o_alloc ?_ | refine o_bslice ?_ | refine o_store ?_ | refine o_not ?_ | refine o_pickt ?_ | refine o_pickf ?_ | refine o_extract ?_ | refine o_eqb ?_ | refine skF ?_ | refine skU ?_
    refine cndt (ct_skip ?_)
    repeat first | refine o_copy ?_ | refine nl ?_ | refine ct_seq ?_ | refine rg ?_ | refine ct_block ?_ | refine bq ?_ | refine o_convE ?_ | refine o_rem ?_ | refine o_v (vap encI (wtL n)) ?_ | refine o_loads ?_ | refine o_loadp ?_ | refine o_faddr ?_ | refine o_add ?_ | refine o_cat ?_ | refine o_bin ?_ | refine o_lenq ?_ | refine o_len ?_ | refine o_loadsA ?_ | refine o_loadpA ?_ | refine o_box ?_ | refine o_alloc ?_ | refine o_bslice ?_ | refine o_store ?_ | refine o_not ?_ | refine o_pickt ?_ | refine o_pickf ?_ | refine o_extract ?_ | refine o_eqb ?_ | refine skF ?_ | refine skU ?_
    refine agn (i + 1) (by omega) ?_
    show Imp _ ⟨_, [(2, _), (7, _), (12, ownV ⟨1, 106496⟩ ((List.replicate (i + 1) (wtL n)).map encI)), (13, _)], [(⟨1, 106496⟩, blkV 1 ((List.replicate (i + 1) (wtL n)).map encI))]⟩
    rw [List.replicate_succ' (n := i) (a := wtL n)]
    exact goesD
  · have hie : i = n % 10 := by omega
    have g1 : decide ((i : Int) < ((n % 10 : Nat) : Int)) = false := by simp; omega
    rw [hie]
    rw [hie] at g1 z1
    have hml : ((List.replicate (n % 10) (wtL n)).map encI).length = n % 10 := by simp
    have k1 : decide ((((List.replicate (n % 10) (wtL n)).map encI).length : Int) ≥ 1) = decide (1 ≤ n % 10) := by rw [hml]; simp; omega
    have k2 : decide ((((List.replicate (n % 10) (wtL n)).map encI).length : Int) ≤ 8) = decide (n % 10 ≤ 8) := by rw [hml]; simp; omega
    generalize newR (List.replicate (n % 10) (wtL n)) = q at hnw hne
    repeat first | refine o_copy ?_ | refine nl ?_ | refine ct_seq ?_ | refine rg ?_ | refine ct_block ?_ | refine bq ?_ | refine o_convE ?_ | refine o_rem ?_ | refine o_loads ?_ | refine o_loadp ?_ | refine o_faddr ?_ | refine o_add ?_ | refine o_cat ?_ | refine o_bin ?_ | refine o_lenq ?_ | refine o_len ?_ | refine o_loadsA ?_ | refine o_loadpA ?_ | refine o_box ?_ | refine o_alloc ?_ | refine o_bslice ?_ | refine o_store ?_ | refine o_not ?_ | refine o_pickt ?_ | refine o_pickf ?_ | refine o_extract ?_ | refine o_eqb ?_ | refine skF ?_ | refine skU ?_
    refine cndf (ct_exit ?_)
    repeat first | refine o_copy ?_ | refine nl ?_ | refine ct_seq ?_ | refine rg ?_ | refine ct_block ?_ | refine bq ?_ | refine cf hnw ?_ | refine o_loads ?_ | refine o_loadp ?_ | refine o_faddr ?_ | refine o_add ?_ | refine o_cat ?_ | refine o_bin ?_ | refine o_lenq ?_ | refine o_len ?_ | refine o_loadsA ?_ | refine o_loadpA ?_ | refine o_box ?_ | refine o_alloc ?_ | refine o_bslice ?_ | refine o_store ?_ | refine o_not ?_ | refine o_pickt ?_ | refine o_pickf ?_ | refine o_extract ?_ | refine o_eqb ?_ | refine skF ?_ | refine skU ?_
    by_cases h1 : 1 ≤ n % 10
    · have v1 : decide ((((List.replicate (n % 10) (wtL n)).map encI).length : Int) ≥ 1) = true := by rw [k1]; simpa using h1
      have v2 : ((q.2 == 0) == decide ((((List.replicate (n % 10) (wtL n)).map encI).length : Int) ≤ 8)) = true := by
        rw [hne, k2]
        simp [h1]
      repeat first | refine o_copy ?_ | refine nl ?_ | refine ct_seq ?_ | refine rg ?_ | refine ct_block ?_ | refine bq ?_ | refine o_loads ?_ | refine o_loadp ?_ | refine o_faddr ?_ | refine o_add ?_ | refine o_cat ?_ | refine o_bin ?_ | refine o_lenq ?_ | refine o_len ?_ | refine o_loadsA ?_ | refine o_loadpA ?_ | refine o_box ?_ | refine o_alloc ?_ | refine o_bslice ?_ | refine o_store ?_ | refine o_not ?_ | refine o_pickt ?_ | refine o_pickf ?_ | refine o_extract ?_ | refine o_eqb ?_ | refine skF ?_ | refine skU ?_
      exact ct_ret ⟨.inr rfl, oB rfl⟩
    · have v1 : decide ((((List.replicate (n % 10) (wtL n)).map encI).length : Int) ≥ 1) = false := by rw [k1]; simpa using h1
      have v2 : ((q.2 == 0) == false) = true := by
        rw [hne]
        simp [h1]
      repeat first | refine o_copy ?_ | refine nl ?_ | refine ct_seq ?_ | refine rg ?_ | refine ct_block ?_ | refine bq ?_ | refine o_loads ?_ | refine o_loadp ?_ | refine o_faddr ?_ | refine o_add ?_ | refine o_cat ?_ | refine o_bin ?_ | refine o_lenq ?_ | refine o_len ?_ | refine o_loadsA ?_ | refine o_loadpA ?_ | refine o_box ?_ | refine o_alloc ?_ | refine o_bslice ?_ | refine o_store ?_ | refine o_not ?_ | refine o_pickt ?_ | refine o_pickf ?_ | refine o_extract ?_ | refine o_eqb ?_ | refine skF ?_ | refine skU ?_
      exact ct_ret ⟨.inr rfl, oB rfl⟩

set_option maxHeartbeats 4000000 in
theorem jobs_law_vc {x : RawL} (hx : RawOk x) {b : Int} (hb1 : -32768 ≤ b) (hb2 : b ≤ 32767) : VC Try.prog 4 [.agg (encRaw x), .int .i16 b] [] (.bool true) [] := by
  have hw := madeL_wf x
  have hm := made_vc hx
  generalize madeL x = s at hw hm
  obtain ⟨s', l, hr⟩ := runs_total hw b
  have hrun := run_vc hw hr (by omega) (by omega)
  obtain ⟨k, hg, ht, he⟩ := hr.goes hw
  have hw' := hr.wf hw
  have hwait := hg.wait.1
  have hwt := hw.wt
  have hlen := hg.lens
  have hlq := hw.lq
  have hn8 := hw.n8
  have c1 : IntKind.i64.wrap b = b := wrap64 (by omega) (by omega)
  have m1 : (s'.q.map encQ).length = s'.q.length := by simp
  have m2 : (s.q.map encQ).length = s.q.length := by simp
  have m3 : (l.map encJ).length = l.length := by simp
  have g1 : (((s'.q.map encQ).length : Int) != ((s.q.map encQ).length : Int)) = false := by rw [m1, m2, hlen.2]; simp
  have g2 : decide (((l.map encJ).length : Int) > 64) = false := by rw [m3]; simp; omega
  refine vc_of vf4 ?_ (Nat.le_of_ble_eq_true rfl) (by intro vs h; cases h)
  repeat first | refine o_copy ?_ | refine nl ?_ | refine ct_seq ?_ | refine rg ?_ | refine ct_block ?_ | refine bq ?_ | refine cv0 sanity_vc ?_ | refine cf hm ?_ | refine cf hrun ?_ | refine o_convE ?_ | refine o_loads ?_ | refine o_loadp ?_ | refine o_faddr ?_ | refine o_iaddr ?_ | refine o_iaddrO ?_ | refine o_iaddrR ?_ | refine o_add ?_ | refine o_cat ?_ | refine o_bin ?_ | refine o_lenq ?_ | refine o_len ?_ | refine o_loadsA ?_ | refine o_loadpA ?_ | refine o_box ?_ | refine o_alloc ?_ | refine o_store ?_ | refine o_not ?_ | refine o_pickt ?_ | refine o_pickf ?_ | refine o_extract ?_ | refine skF ?_ | refine skU ?_
  refine cndf (ct_skip ?_)
  repeat first | refine o_copy ?_ | refine nl ?_ | refine ct_seq ?_ | refine rg ?_ | refine ct_block ?_ | refine bq ?_ | refine o_loads ?_ | refine o_loadp ?_ | refine o_faddr ?_ | refine o_iaddr ?_ | refine o_iaddrO ?_ | refine o_iaddrR ?_ | refine o_add ?_ | refine o_cat ?_ | refine o_bin ?_ | refine o_lenq ?_ | refine o_len ?_ | refine o_loadsA ?_ | refine o_loadpA ?_ | refine o_box ?_ | refine o_alloc ?_ | refine o_store ?_ | refine o_not ?_ | refine o_pickt ?_ | refine o_pickf ?_ | refine o_extract ?_ | refine skF ?_ | refine skU ?_
  refine ct_loopG (fun (g : Nat) => [(5, .bool true), (6, .ptr ⟨1, 16400⟩ 1 0 0), (7, .ptr ⟨1, 24632⟩ 1 0 0), (8, .sh false (l.map encJ)), (9, .int .i64 g)]) (fun g => [(⟨1, 16400⟩, ⟨true, false, 4, [encSc s]⟩), (⟨1, 24632⟩, ⟨true, false, 4, [encSc s']⟩)]) (fun g => s.q.length - g) (fun g => g ≤ s.q.length) 0 goesD (Nat.zero_le _) ?_
  intro i hi
  repeat first | refine o_copy ?_ | refine nl ?_ | refine ct_seq ?_ | refine rg ?_ | refine ct_block ?_ | refine bq ?_ | refine o_loads ?_ | refine o_loadp ?_ | refine o_faddr ?_ | refine o_iaddr ?_ | refine o_iaddrO ?_ | refine o_iaddrR ?_ | refine o_add ?_ | refine o_cat ?_ | refine o_bin ?_ | refine o_lenq ?_ | refine o_len ?_ | refine o_loadsA ?_ | refine o_loadpA ?_ | refine o_box ?_ | refine o_alloc ?_ | refine o_store ?_ | refine o_not ?_ | refine o_pickt ?_ | refine o_pickf ?_ | refine o_extract ?_ | refine skF ?_ | refine skU ?_
  refine cnd (fun h => ct_skip ?_) (fun h => ct_exit ?_)
  · have hlt : i < s.q.length := by have h' := of_decide_eq_true h; omega
    obtain ⟨y, hy⟩ : ∃ y, s.q[i]? = some y := ⟨_, List.getElem?_eq_getElem hlt⟩
    obtain ⟨z, hz⟩ : ∃ y, s'.q[i]? = some y := ⟨_, List.getElem?_eq_getElem (by rw [hlen.2]; exact hlt)⟩
    have hye := gm (enc := encQ) (n := (i : Int)) hy (by omega)
    have hze := gm (enc := encQ) (n := (i : Int)) hz (by omega)
    have hj := hg.jobs hw i
    rw [hy, hz] at hj
    simp only [Option.getD_some] at hj
    have hol : (ofL l (i : Int)).length ≤ 64 := by
      have := List.length_filter_le (fun j : JobL => j.t == (i : Int)) l
      simp only [ofL]
      omega
    have hzl := waitL_get hz
    have hyl := waitL_get hy
    have hzw := hw'.wt
    have hs := same_jobs_vc (a := ofL l (i : Int) ++ z) (b := y) (by rw [List.length_append]; omega) (by omega)
    have hd : (!decide (ofL l (i : Int) ++ z = y)) = false := by simp [hj]
    repeat first | refine o_copy ?_ | refine nl ?_ | refine ct_seq ?_ | refine rg ?_ | refine ct_block ?_ | refine bq ?_ | refine cv (of_vc (l := l) (t := (i : Int)) (by omega)) ?_ | refine o_v (vaps encJ (ofL l (i : Int)) z) ?_ | refine cv0 hs ?_ | refine o_loads ?_ | refine o_loadp ?_ | refine o_faddr ?_ | refine o_iaddr ?_ | refine o_iaddrO ?_ | refine o_iaddrR ?_ | refine o_add ?_ | refine o_cat ?_ | refine o_bin ?_ | refine o_lenq ?_ | refine o_len ?_ | refine o_loadsA ?_ | refine o_loadpA ?_ | refine o_box ?_ | refine o_alloc ?_ | refine o_store ?_ | refine o_not ?_ | refine o_pickt ?_ | refine o_pickf ?_ | refine o_extract ?_ | refine skF ?_ | refine skU ?_
    refine cndf (ct_skip ?_)
    repeat first | refine o_copy ?_ | refine nl ?_ | refine ct_seq ?_ | refine rg ?_ | refine ct_block ?_ | refine bq ?_ | refine o_loads ?_ | refine o_loadp ?_ | refine o_faddr ?_ | refine o_iaddr ?_ | refine o_iaddrO ?_ | refine o_iaddrR ?_ | refine o_add ?_ | refine o_cat ?_ | refine o_bin ?_ | refine o_lenq ?_ | refine o_len ?_ | refine o_loadsA ?_ | refine o_loadpA ?_ | refine o_box ?_ | refine o_alloc ?_ | refine o_store ?_ | refine o_not ?_ | refine o_pickt ?_ | refine o_pickf ?_ | refine o_extract ?_ | refine skF ?_ | refine skU ?_
    exact agn (i + 1) (by omega) goesD
  · repeat first | refine o_copy ?_ | refine nl ?_ | refine ct_seq ?_ | refine rg ?_ | refine ct_block ?_ | refine bq ?_ | refine o_loads ?_ | refine o_loadp ?_ | refine o_faddr ?_ | refine o_iaddr ?_ | refine o_iaddrO ?_ | refine o_iaddrR ?_ | refine o_add ?_ | refine o_cat ?_ | refine o_bin ?_ | refine o_lenq ?_ | refine o_len ?_ | refine o_loadsA ?_ | refine o_loadpA ?_ | refine o_box ?_ | refine o_alloc ?_ | refine o_store ?_ | refine o_not ?_ | refine o_pickt ?_ | refine o_pickf ?_ | refine o_extract ?_ | refine skF ?_ | refine skU ?_
    exact ct_ret ⟨.inr rfl, oB rfl⟩
end Go.Proofs
open Go.V Go.Pu
set_option linter.unusedVariables false
set_option linter.unusedSimpArgs false
set_option maxRecDepth 20000
namespace Go.Proofs
/-- downspout/downspoutlaw31.SchedBudget -/
def vc5 : VCode :=
 (.seq
 (.region 0 false [
 ⟨(some 2), .box (.t 0), none, 0, []⟩,
 ⟨(some 4), .copy (.c (.bool false)), none, 8, []⟩])
 (.seq
 (.region 1 false [
 ⟨(some 12), .call (.c (.fn 10 [])) [], none, 8192, []⟩,
 ⟨(some 5), .copy (.t 12), none, 8200, [0]⟩])
 (.seq
 (.region 2 false [
 ⟨(some 13), .load true 2 (.t 2), none, 16384, []⟩,
 ⟨(some 14), .call (.c (.fn 11 [])) [(.t 13)], none, 16392, [0]⟩,
 ⟨(some 15), .copy (.t 1), none, 16400, []⟩,
 ⟨(some 16), .conv .i64 (.t 15), none, 16408, [2]⟩,
 ⟨(some 6), .alloc [.nils, .nils, (.int .i64 0), .nils], none, 16416, []⟩,
 ⟨none, .store 4 (.t 6) (.t 14), none, 16424, [4, 1, 0]⟩,
 ⟨(some 7), .copy (.t 16), none, 16432, [3, 2, 5, 4, 1, 0]⟩])
 (.seq
 (.region 3 false [
 ⟨(some 18), .load true 4 (.t 6), none, 24576, []⟩,
 ⟨(some 19), .copy (.t 7), none, 24584, []⟩,
 ⟨(some 20), .call (.c (.fn 12 [])) [(.t 18), (.t 19)], none, 24592, [0, 1]⟩,
 ⟨(some 17), .copy (.t 20), none, 24600, [2, 0, 1]⟩,
 ⟨(some 21), .extract (.t 17) 0, none, 24608, [3, 2, 0, 1]⟩,
 ⟨(some 22), .extract (.t 17) 1, none, 24616, [3, 2, 0, 1]⟩,
 ⟨(some 8), .alloc [.nils, .nils, (.int .i64 0), .nils], none, 24624, []⟩,
 ⟨none, .store 4 (.t 8) (.t 21), none, 24632, [6, 4, 3, 2, 0, 1]⟩,
 ⟨(some 9), .copy (.t 22), none, 24640, [5, 3, 2, 0, 1, 7, 6, 4]⟩])
 (.seq
 (.seq
 (.region 4 false [
 ⟨(some 23), .copy (.t 9), none, 32768, []⟩,
 ⟨(some 24), .len (.t 23), none, 32776, [0]⟩,
 ⟨(some 25), .bin .gtr (.t 24) (.c (.int .i64 64)), none, 32784, [1, 0]⟩,
 ⟨(some 26), .copy (.t 25), none, 32792, [2, 1, 0]⟩,
 ⟨(some 27), .copy (.t 9), (some (3, 26, false)), 32800, [3, 2, 1, 0]⟩,
 ⟨(some 28), .call (.c (.fn 23 [])) [(.t 27)], (some (3, 26, false)), 32808, [4, 3, 2, 1, 0]⟩,
 ⟨(some 29), .copy (.t 7), (some (3, 26, false)), 32816, [3, 2, 1, 0]⟩,
 ⟨(some 30), .minmax true (.t 29) (.c (.int .i64 0)), (some (3, 26, false)), 32824, [6, 3, 2, 1, 0]⟩,
 ⟨(some 31), .bin .gtr (.t 28) (.t 30), (some (3, 26, false)), 32832, [5, 4, 3, 2, 1, 0, 7, 6]⟩,
 ⟨(some 32), .pick (.t 26) (.c (.bool true)) (.t 31), none, 32840, [3, 2, 1, 0, 8, 5, 4, 7, 6]⟩])
 (.cond (.t 32)
 (.seq
 (.region 5 false [
 ⟨(some 4), .copy (.c (.bool false)), none, 40960, []⟩])
 .ret)
 .skip))
 (.seq
 (.region 6 false [
 ⟨(some 34), .load true 4 (.t 6), none, 49152, []⟩,
 ⟨(some 35), .call (.c (.fn 12 [])) [(.t 34), (.c (.int .i64 5120))], none, 49160, [0]⟩,
 ⟨(some 33), .copy (.t 35), none, 49168, [1, 0]⟩,
 ⟨(some 36), .extract (.t 33) 0, none, 49176, [2, 1, 0]⟩,
 ⟨(some 37), .extract (.t 33) 1, none, 49184, [2, 1, 0]⟩,
 ⟨(some 10), .alloc [.nils, .nils, (.int .i64 0), .nils], none, 49192, []⟩,
 ⟨none, .store 4 (.t 10) (.t 36), none, 49200, [5, 3, 2, 1, 0]⟩,
 ⟨(some 11), .copy (.t 37), none, 49208, [4, 2, 1, 0, 6, 5, 3]⟩])
 (.seq
 (.seq
 (.region 7 false [
 ⟨(some 38), .copy (.t 9), none, 57344, []⟩,
 ⟨(some 39), .len (.t 38), none, 57352, [0]⟩,
 ⟨(some 40), .copy (.t 11), none, 57360, []⟩,
 ⟨(some 41), .len (.t 40), none, 57368, [2]⟩,
 ⟨(some 42), .bin .eql (.t 39) (.t 41), none, 57376, [1, 0, 3, 2]⟩])
 (.cond (.t 42)
 (.seq
 (.region 8 false [
 ⟨(some 43), .load true 4 (.t 8), none, 65536, []⟩,
 ⟨(some 44), .call (.c (.fn 18 [])) [(.t 43)], none, 65544, [0]⟩,
 ⟨(some 45), .copy (.t 44), none, 65552, [1, 0]⟩,
 ⟨(some 46), .copy (.t 5), (some (2, 45, true)), 65560, [2, 1, 0]⟩,
 ⟨(some 47), .pick (.t 45) (.t 46) (.c (.bool false)), none, 65568, [2, 1, 0, 3]⟩,
 ⟨(some 4), .copy (.t 47), none, 65576, [4, 2, 1, 0, 3]⟩])
 .ret)
 .skip))
 (.seq
 (.region 9 true [
 ⟨(some 48), .copy (.t 9), none, 73728, []⟩,
 ⟨(some 49), .len (.t 48), none, 73736, [0]⟩,
 ⟨(some 50), .copy (.t 11), none, 73744, []⟩,
 ⟨(some 51), .len (.t 50), none, 73752, [2]⟩,
 ⟨(some 52), .bin .lss (.t 49) (.t 51), none, 73760, [1, 0, 3, 2]⟩,
 ⟨(some 53), .copy (.t 52), none, 73768, [4, 1, 0, 3, 2]⟩,
 ⟨(some 54), .load true 4 (.t 8), (some (5, 53, true)), 73776, [5, 4, 1, 0, 3, 2]⟩,
 ⟨(some 55), .call (.c (.fn 18 [])) [(.t 54)], (some (5, 53, true)), 73784, [6, 5, 4, 1, 0, 3, 2]⟩,
 ⟨(some 56), .not (.t 55), (some (5, 53, true)), 73792, [7, 6, 5, 4, 1, 0, 3, 2]⟩,
 ⟨(some 57), .pick (.t 53) (.t 56) (.c (.bool false)), none, 73800, [5, 4, 1, 0, 3, 2, 8, 7, 6]⟩,
 ⟨(some 58), .copy (.t 57), none, 73808, [9, 5, 4, 1, 0, 3, 2, 8, 7, 6]⟩,
 ⟨(some 59), .copy (.t 11), (some (10, 58, true)), 73816, [10, 9, 5, 4, 1, 0, 3, 2, 8, 7, 6]⟩,
 ⟨(some 60), .copy (.t 9), (some (10, 58, true)), 73824, [10, 9, 5, 4, 1, 0, 3, 2, 8, 7, 6]⟩,
 ⟨(some 61), .len (.t 60), (some (10, 58, true)), 73832, [12, 10, 9, 5, 4, 1, 0, 3, 2, 8, 7, 6]⟩,
 ⟨(some 62), .iaddr 3 (.t 59) (.t 61), (some (10, 58, true)), 73840, [11, 10, 9, 5, 4, 1, 0, 3, 2, 8, 7, 6, 13, 12]⟩,
 ⟨(some 63), .faddr 2 (.t 62), (some (10, 58, true)), 73848, [14, 11, 10, 9, 5, 4, 1, 0, 3, 2, 8, 7, 6, 13, 12]⟩,
 ⟨(some 64), .load false 1 (.t 63), (some (10, 58, true)), 73856, [15, 14, 11, 10, 9, 5, 4, 1, 0, 3, 2, 8, 7, 6, 13, 12]⟩,
 ⟨(some 65), .copy (.t 7), (some (10, 58, true)), 73864, [10, 9, 5, 4, 1, 0, 3, 2, 8, 7, 6]⟩,
 ⟨(some 66), .copy (.t 9), (some (10, 58, true)), 73872, [10, 9, 5, 4, 1, 0, 3, 2, 8, 7, 6]⟩,
 ⟨(some 67), .call (.c (.fn 23 [])) [(.t 66)], (some (10, 58, true)), 73880, [18, 10, 9, 5, 4, 1, 0, 3, 2, 8, 7, 6]⟩,
 ⟨(some 68), .bin .sub (.t 65) (.t 67), (some (10, 58, true)), 73888, [17, 10, 9, 5, 4, 1, 0, 3, 2, 8, 7, 6, 19, 18]⟩,
 ⟨(some 69), .bin .gtr (.t 64) (.t 68), (some (10, 58, true)), 73896, [16, 15, 14, 11, 10, 9, 5, 4, 1, 0, 3, 2, 8, 7, 6, 13, 12, 20, 17, 19, 18]⟩,
 ⟨(some 70), .pick (.t 58) (.t 69) (.c (.bool false)), none, 73904, [10, 9, 5, 4, 1, 0, 3, 2, 8, 7, 6, 21, 16, 15, 14, 11, 13, 12, 20, 17, 19, 18]⟩,
 ⟨(some 71), .copy (.t 70), none, 73912, [22, 10, 9, 5, 4, 1, 0, 3, 2, 8, 7, 6, 21, 16, 15, 14, 11, 13, 12, 20, 17, 19, 18]⟩,
 ⟨(some 72), .copy (.t 5), (some (23, 71, true)), 73920, [23, 22, 10, 9, 5, 4, 1, 0, 3, 2, 8, 7, 6, 21, 16, 15, 14, 11, 13, 12, 20, 17, 19, 18]⟩,
 ⟨(some 73), .pick (.t 71) (.t 72) (.c (.bool false)), none, 73928, [23, 22, 10, 9, 5, 4, 1, 0, 3, 2, 8, 7, 6, 21, 16, 15, 14, 11, 13, 12, 20, 17, 19, 18, 24]⟩,
 ⟨(some 4), .copy (.t 73), none, 73936, [25, 23, 22, 10, 9, 5, 4, 1, 0, 3, 2, 8, 7, 6, 21, 16, 15, 14, 11, 13, 12, 20, 17, 19, 18, 24]⟩])
 .ret))))))))
theorem vf5 : VF Try.prog 5 = some (74, vc5, [.tmp 4]) := by kernel_rfl
/-- downspout/downspoutlaw31.SchedOrder -/
def vc6 : VCode :=
 (.seq
 (.region 0 false [
 ⟨(some 2), .box (.t 0), none, 0, []⟩,
 ⟨(some 4), .copy (.c (.bool false)), none, 8, []⟩])
 (.seq
 (.region 1 false [
 ⟨(some 13), .call (.c (.fn 10 [])) [], none, 8192, []⟩,
 ⟨(some 5), .copy (.t 13), none, 8200, [0]⟩])
 (.seq
 (.region 2 false [
 ⟨(some 14), .load true 2 (.t 2), none, 16384, []⟩,
 ⟨(some 15), .call (.c (.fn 11 [])) [(.t 14)], none, 16392, [0]⟩,
 ⟨(some 6), .alloc [.nils, .nils, (.int .i64 0), .nils], none, 16400, []⟩,
 ⟨none, .store 4 (.t 6) (.t 15), none, 16408, [2, 1, 0]⟩])
 (.seq
 (.region 3 false [
 ⟨(some 17), .load true 4 (.t 6), none, 24576, []⟩,
 ⟨(some 18), .call (.c (.fn 12 [])) [(.t 17), (.c (.int .i64 5120))], none, 24584, [0]⟩,
 ⟨(some 16), .copy (.t 18), none, 24592, [1, 0]⟩,
 ⟨(some 19), .extract (.t 16) 0, none, 24600, [2, 1, 0]⟩,
 ⟨(some 20), .extract (.t 16) 1, none, 24608, [2, 1, 0]⟩,
 ⟨(some 7), .alloc [.nils, .nils, (.int .i64 0), .nils], none, 24616, []⟩,
 ⟨none, .store 4 (.t 7) (.t 19), none, 24624, [5, 3, 2, 1, 0]⟩,
 ⟨(some 8), .copy (.t 20), none, 24632, [4, 2, 1, 0, 6, 5, 3]⟩])
 (.seq
 (.region 4 false [
 ⟨(some 21), .bslice 3 [(.int .i64 0), (.int .i64 0), (.int .i64 0)] 0 [], none, 32768, []⟩,
 ⟨(some 9), .copy (.t 21), none, 32776, [0]⟩])
 (.seq
 (.seq
 (.region 5 false [
 ⟨(some 10), .copy (.c (.int .i64 0)), none, 40960, []⟩])
 (.block 0
 (.loop
 (.seq
 (.seq
 (.region 6 false [
 ⟨(some 22), .copy (.t 10), none, 49152, []⟩,
 ⟨(some 23), .copy (.t 1), none, 49160, []⟩,
 ⟨(some 24), .len (.t 23), none, 49168, [1]⟩,
 ⟨(some 25), .bin .lss (.t 22) (.t 24), none, 49176, [0, 2, 1]⟩,
 ⟨(some 26), .copy (.t 25), none, 49184, [3, 0, 2, 1]⟩,
 ⟨(some 27), .copy (.t 10), (some (4, 26, true)), 49192, [4, 3, 0, 2, 1]⟩,
 ⟨(some 28), .bin .lss (.t 27) (.c (.int .i64 12)), (some (4, 26, true)), 49200, [5, 4, 3, 0, 2, 1]⟩,
 ⟨(some 29), .pick (.t 26) (.t 28) (.c (.bool false)), none, 49208, [4, 3, 0, 2, 1, 6, 5]⟩])
 (.cond (.t 29)
 .skip
 (.exit 0)))
 (.seq
 (.block 1
 (.seq
 (.region 8 true [
 ⟨(some 33), .load true 4 (.t 6), none, 65536, []⟩,
 ⟨(some 34), .copy (.t 1), none, 65544, []⟩,
 ⟨(some 35), .copy (.t 10), none, 65552, []⟩,
 ⟨(some 36), .iaddr 1 (.t 34) (.t 35), none, 65560, [1, 2]⟩,
 ⟨(some 37), .load false 1 (.t 36), none, 65568, [3, 1, 2]⟩,
 ⟨(some 38), .conv .i64 (.t 37), none, 65576, [4, 3, 1, 2]⟩,
 ⟨(some 39), .call (.c (.fn 12 [])) [(.t 33), (.t 38)], none, 65584, [0, 5, 4, 3, 1, 2]⟩,
 ⟨(some 32), .copy (.t 39), none, 65592, [6, 0, 5, 4, 3, 1, 2]⟩,
 ⟨(some 40), .extract (.t 32) 0, none, 65600, [7, 6, 0, 5, 4, 3, 1, 2]⟩,
 ⟨(some 41), .extract (.t 32) 1, none, 65608, [7, 6, 0, 5, 4, 3, 1, 2]⟩,
 ⟨(some 11), .alloc [.nils, .nils, (.int .i64 0), .nils], none, 65616, []⟩,
 ⟨none, .store 4 (.t 11) (.t 40), none, 65624, [10, 8, 7, 6, 0, 5, 4, 3, 1, 2]⟩,
 ⟨(some 12), .copy (.t 41), none, 65632, [9, 7, 6, 0, 5, 4, 3, 1, 2, 11, 10, 8]⟩])
 (.seq
 (.seq
 (.region 9 false [
 ⟨(some 42), .faddr 3 (.t 11), none, 73728, []⟩,
 ⟨(some 43), .load false 1 (.t 42), none, 73736, [0]⟩,
 ⟨(some 44), .len (.t 43), none, 73744, [1, 0]⟩,
 ⟨(some 45), .faddr 3 (.t 6), none, 73752, []⟩,
 ⟨(some 46), .load false 1 (.t 45), none, 73760, [3]⟩,
 ⟨(some 47), .len (.t 46), none, 73768, [4, 3]⟩,
 ⟨(some 48), .bin .neq (.t 44) (.t 47), none, 73776, [2, 1, 0, 5, 4, 3]⟩,
 ⟨(some 49), .copy (.t 48), none, 73784, [6, 2, 1, 0, 5, 4, 3]⟩,
 ⟨(some 50), .faddr 0 (.t 11), (some (7, 49, false)), 73792, [7, 6, 2, 1, 0, 5, 4, 3]⟩,
 ⟨(some 51), .load false 1 (.t 50), (some (7, 49, false)), 73800, [8, 7, 6, 2, 1, 0, 5, 4, 3]⟩,
 ⟨(some 52), .len (.t 51), (some (7, 49, false)), 73808, [9, 8, 7, 6, 2, 1, 0, 5, 4, 3]⟩,
 ⟨(some 53), .faddr 0 (.t 6), (some (7, 49, false)), 73816, [7, 6, 2, 1, 0, 5, 4, 3]⟩,
 ⟨(some 54), .load false 1 (.t 53), (some (7, 49, false)), 73824, [11, 7, 6, 2, 1, 0, 5, 4, 3]⟩,
 ⟨(some 55), .len (.t 54), (some (7, 49, false)), 73832, [12, 11, 7, 6, 2, 1, 0, 5, 4, 3]⟩,
 ⟨(some 56), .bin .neq (.t 52) (.t 55), (some (7, 49, false)), 73840, [10, 9, 8, 7, 6, 2, 1, 0, 5, 4, 3, 13, 12, 11]⟩,
 ⟨(some 57), .pick (.t 49) (.c (.bool true)) (.t 56), none, 73848, [7, 6, 2, 1, 0, 5, 4, 3, 14, 10, 9, 8, 13, 12, 11]⟩,
 ⟨(some 58), .copy (.t 57), none, 73856, [15, 7, 6, 2, 1, 0, 5, 4, 3, 14, 10, 9, 8, 13, 12, 11]⟩,
 ⟨(some 59), .faddr 1 (.t 11), (some (16, 58, false)), 73864, [16, 15, 7, 6, 2, 1, 0, 5, 4, 3, 14, 10, 9, 8, 13, 12, 11]⟩,
 ⟨(some 60), .load false 1 (.t 59), (some (16, 58, false)), 73872, [17, 16, 15, 7, 6, 2, 1, 0, 5, 4, 3, 14, 10, 9, 8, 13, 12, 11]⟩,
 ⟨(some 61), .len (.t 60), (some (16, 58, false)), 73880, [18, 17, 16, 15, 7, 6, 2, 1, 0, 5, 4, 3, 14, 10, 9, 8, 13, 12, 11]⟩,
 ⟨(some 62), .faddr 1 (.t 6), (some (16, 58, false)), 73888, [16, 15, 7, 6, 2, 1, 0, 5, 4, 3, 14, 10, 9, 8, 13, 12, 11]⟩,
 ⟨(some 63), .load false 1 (.t 62), (some (16, 58, false)), 73896, [20, 16, 15, 7, 6, 2, 1, 0, 5, 4, 3, 14, 10, 9, 8, 13, 12, 11]⟩,
 ⟨(some 64), .len (.t 63), (some (16, 58, false)), 73904, [21, 20, 16, 15, 7, 6, 2, 1, 0, 5, 4, 3, 14, 10, 9, 8, 13, 12, 11]⟩,
 ⟨(some 65), .bin .neq (.t 61) (.t 64), (some (16, 58, false)), 73912, [19, 18, 17, 16, 15, 7, 6, 2, 1, 0, 5, 4, 3, 14, 10, 9, 8, 13, 12, 11, 22, 21, 20]⟩,
 ⟨(some 66), .pick (.t 58) (.c (.bool true)) (.t 65), none, 73920, [16, 15, 7, 6, 2, 1, 0, 5, 4, 3, 14, 10, 9, 8, 13, 12, 11, 23, 19, 18, 17, 22, 21, 20]⟩,
 ⟨(some 67), .copy (.t 66), none, 73928, [24, 16, 15, 7, 6, 2, 1, 0, 5, 4, 3, 14, 10, 9, 8, 13, 12, 11, 23, 19, 18, 17, 22, 21, 20]⟩,
 ⟨(some 68), .faddr 2 (.t 11), (some (25, 67, false)), 73936, [25, 24, 16, 15, 7, 6, 2, 1, 0, 5, 4, 3, 14, 10, 9, 8, 13, 12, 11, 23, 19, 18, 17, 22, 21, 20]⟩,
 ⟨(some 69), .load false 1 (.t 68), (some (25, 67, false)), 73944, [26, 25, 24, 16, 15, 7, 6, 2, 1, 0, 5, 4, 3, 14, 10, 9, 8, 13, 12, 11, 23, 19, 18, 17, 22, 21, 20]⟩,
 ⟨(some 70), .bin .lss (.t 69) (.c (.int .i64 0)), (some (25, 67, false)), 73952, [27, 26, 25, 24, 16, 15, 7, 6, 2, 1, 0, 5, 4, 3, 14, 10, 9, 8, 13, 12, 11, 23, 19, 18, 17, 22, 21, 20]⟩,
 ⟨(some 71), .pick (.t 67) (.c (.bool true)) (.t 70), none, 73960, [25, 24, 16, 15, 7, 6, 2, 1, 0, 5, 4, 3, 14, 10, 9, 8, 13, 12, 11, 23, 19, 18, 17, 22, 21, 20, 28, 27, 26]⟩,
 ⟨(some 72), .copy (.t 71), none, 73968, [29, 25, 24, 16, 15, 7, 6, 2, 1, 0, 5, 4, 3, 14, 10, 9, 8, 13, 12, 11, 23, 19, 18, 17, 22, 21, 20, 28, 27, 26]⟩,
 ⟨(some 73), .faddr 2 (.t 11), (some (30, 72, false)), 73976, [30, 29, 25, 24, 16, 15, 7, 6, 2, 1, 0, 5, 4, 3, 14, 10, 9, 8, 13, 12, 11, 23, 19, 18, 17, 22, 21, 20, 28, 27, 26]⟩,
 ⟨(some 74), .load false 1 (.t 73), (some (30, 72, false)), 73984, [31, 30, 29, 25, 24, 16, 15, 7, 6, 2, 1, 0, 5, 4, 3, 14, 10, 9, 8, 13, 12, 11, 23, 19, 18, 17, 22, 21, 20, 28, 27, 26]⟩,
 ⟨(some 75), .faddr 0 (.t 11), (some (30, 72, false)), 73992, [30, 29, 25, 24, 16, 15, 7, 6, 2, 1, 0, 5, 4, 3, 14, 10, 9, 8, 13, 12, 11, 23, 19, 18, 17, 22, 21, 20, 28, 27, 26]⟩,
 ⟨(some 76), .load false 1 (.t 75), (some (30, 72, false)), 74000, [33, 30, 29, 25, 24, 16, 15, 7, 6, 2, 1, 0, 5, 4, 3, 14, 10, 9, 8, 13, 12, 11, 23, 19, 18, 17, 22, 21, 20, 28, 27, 26]⟩,
 ⟨(some 77), .len (.t 76), (some (30, 72, false)), 74008, [34, 33, 30, 29, 25, 24, 16, 15, 7, 6, 2, 1, 0, 5, 4, 3, 14, 10, 9, 8, 13, 12, 11, 23, 19, 18, 17, 22, 21, 20, 28, 27, 26]⟩,
 ⟨(some 78), .bin .geq (.t 74) (.t 77), (some (30, 72, false)), 74016, [32, 31, 30, 29, 25, 24, 16, 15, 7, 6, 2, 1, 0, 5, 4, 3, 14, 10, 9, 8, 13, 12, 11, 23, 19, 18, 17, 22, 21, 20, 28, 27, 26, 35, 34, 33]⟩,
 ⟨(some 79), .pick (.t 72) (.c (.bool true)) (.t 78), none, 74024, [30, 29, 25, 24, 16, 15, 7, 6, 2, 1, 0, 5, 4, 3, 14, 10, 9, 8, 13, 12, 11, 23, 19, 18, 17, 22, 21, 20, 28, 27, 26, 36, 32, 31, 35, 34, 33]⟩])
 (.cond (.t 79)
 (.seq
 (.region 10 false [
 ⟨(some 4), .copy (.c (.bool false)), none, 81920, []⟩])
 .ret)
 .skip))
 (.seq
 (.region 11 false [
 ⟨(some 80), .copy (.t 9), none, 90112, []⟩,
 ⟨(some 81), .copy (.t 12), none, 90120, []⟩,
 ⟨(some 82), .append 3 24 [(.int .i64 0), (.int .i64 0), (.int .i64 0)] (.t 80) (.t 81), none, 90128, [0, 1]⟩,
 ⟨(some 9), .copy (.t 82), none, 90136, [2, 0, 1]⟩])
 (.region 12 false [
 ⟨(some 83), .load true 4 (.t 11), none, 98304, []⟩,
 ⟨none, .store 4 (.t 6) (.t 83), none, 98312, [0]⟩])))))
 (.region 7 false [
 ⟨(some 30), .copy (.t 10), none, 57344, []⟩,
 ⟨(some 31), .bin .add (.t 30) (.c (.int .i64 1)), none, 57352, [0]⟩,
 ⟨(some 10), .copy (.t 31), none, 57360, [1, 0]⟩]))))))
 (.seq
 (.region 13 false [
 ⟨(some 84), .copy (.t 9), none, 106496, []⟩,
 ⟨(some 85), .len (.t 84), none, 106504, [0]⟩,
 ⟨(some 86), .copy (.t 8), none, 106512, []⟩,
 ⟨(some 87), .len (.t 86), none, 106520, [2]⟩,
 ⟨(some 88), .bin .leq (.t 85) (.t 87), none, 106528, [1, 0, 3, 2]⟩,
 ⟨(some 89), .copy (.t 88), none, 106536, [4, 1, 0, 3, 2]⟩,
 ⟨(some 90), .copy (.t 9), (some (5, 89, true)), 106544, [5, 4, 1, 0, 3, 2]⟩,
 ⟨(some 91), .copy (.t 8), (some (5, 89, true)), 106552, [5, 4, 1, 0, 3, 2]⟩,
 ⟨(some 92), .copy (.t 9), (some (5, 89, true)), 106560, [5, 4, 1, 0, 3, 2]⟩,
 ⟨(some 93), .len (.t 92), (some (5, 89, true)), 106568, [8, 5, 4, 1, 0, 3, 2]⟩,
 ⟨(some 94), .slsl 3 (.t 91) none (some (.t 93)) none, (some (5, 89, true)), 106576, [7, 5, 4, 1, 0, 3, 2, 9, 8]⟩,
 ⟨(some 95), .call (.c (.fn 17 [])) [(.t 90), (.t 94)], (some (5, 89, true)), 106584, [6, 5, 4, 1, 0, 3, 2, 10, 7, 9, 8]⟩,
 ⟨(some 96), .pick (.t 89) (.t 95) (.c (.bool false)), none, 106592, [5, 4, 1, 0, 3, 2, 11, 6, 10, 7, 9, 8]⟩,
 ⟨(some 97), .copy (.t 96), none, 106600, [12, 5, 4, 1, 0, 3, 2, 11, 6, 10, 7, 9, 8]⟩,
 ⟨(some 98), .copy (.t 5), (some (13, 97, true)), 106608, [13, 12, 5, 4, 1, 0, 3, 2, 11, 6, 10, 7, 9, 8]⟩,
 ⟨(some 99), .pick (.t 97) (.t 98) (.c (.bool false)), none, 106616, [13, 12, 5, 4, 1, 0, 3, 2, 11, 6, 10, 7, 9, 8, 14]⟩,
 ⟨(some 4), .copy (.t 99), none, 106624, [15, 13, 12, 5, 4, 1, 0, 3, 2, 11, 6, 10, 7, 9, 8, 14]⟩])
 .ret)))))))
theorem vf6 : VF Try.prog 6 = some (100, vc6, [.tmp 4]) := by kernel_rfl
/-- downspout/downspoutlaw31.SchedWorks -/
def vc7 : VCode :=
 (.seq
 (.region 0 false [
 ⟨(some 2), .box (.t 0), none, 0, []⟩,
 ⟨(some 4), .copy (.c (.bool false)), none, 8, []⟩])
 (.seq
 (.region 1 false [
 ⟨(some 13), .call (.c (.fn 10 [])) [], none, 8192, []⟩,
 ⟨(some 5), .copy (.t 13), none, 8200, [0]⟩])
 (.seq
 (.region 2 false [
 ⟨(some 14), .load true 2 (.t 2), none, 16384, []⟩,
 ⟨(some 15), .call (.c (.fn 11 [])) [(.t 14)], none, 16392, [0]⟩,
 ⟨(some 6), .alloc [.nils, .nils, (.int .i64 0), .nils], none, 16400, []⟩,
 ⟨none, .store 4 (.t 6) (.t 15), none, 16408, [2, 1, 0]⟩])
 (.seq
 (.region 3 false [
 ⟨(some 7), .copy (.c (.int .i64 0)), none, 24576, []⟩])
 (.seq
 (.seq
 (.region 4 false [
 ⟨(some 8), .copy (.c (.int .i64 0)), none, 32768, []⟩])
 (.block 0
 (.loop
 (.seq
 (.seq
 (.region 5 false [
 ⟨(some 16), .copy (.t 8), none, 40960, []⟩,
 ⟨(some 17), .faddr 3 (.t 6), none, 40968, []⟩,
 ⟨(some 18), .load false 1 (.t 17), none, 40976, [1]⟩,
 ⟨(some 19), .len (.t 18), none, 40984, [2, 1]⟩,
 ⟨(some 20), .bin .lss (.t 16) (.t 19), none, 40992, [0, 3, 2, 1]⟩])
 (.cond (.t 20)
 .skip
 (.exit 0)))
 (.seq
 (.block 1
 (.region 7 false [
 ⟨(some 23), .copy (.t 7), none, 57344, []⟩,
 ⟨(some 24), .faddr 3 (.t 6), none, 57352, []⟩,
 ⟨(some 25), .load false 1 (.t 24), none, 57360, [1]⟩,
 ⟨(some 26), .copy (.t 8), none, 57368, []⟩,
 ⟨(some 27), .iaddr 1 (.t 25) (.t 26), none, 57376, [2, 1, 3]⟩,
 ⟨(some 28), .load false 1 (.t 27), none, 57384, [4, 2, 1, 3]⟩,
 ⟨(some 29), .call (.c (.fn 23 [])) [(.t 28)], none, 57392, [5, 4, 2, 1, 3]⟩,
 ⟨(some 30), .bin .add (.t 23) (.t 29), none, 57400, [0, 6, 5, 4, 2, 1, 3]⟩,
 ⟨(some 7), .copy (.t 30), none, 57408, [7, 0, 6, 5, 4, 2, 1, 3]⟩]))
 (.region 6 false [
 ⟨(some 21), .copy (.t 8), none, 49152, []⟩,
 ⟨(some 22), .bin .add (.t 21) (.c (.int .i64 1)), none, 49160, [0]⟩,
 ⟨(some 8), .copy (.t 22), none, 49168, [1, 0]⟩]))))))
 (.seq
 (.region 8 false [
 ⟨(some 32), .load true 4 (.t 6), none, 65536, []⟩,
 ⟨(some 33), .copy (.t 7), none, 65544, []⟩,
 ⟨(some 34), .call (.c (.fn 12 [])) [(.t 32), (.t 33)], none, 65552, [0, 1]⟩,
 ⟨(some 31), .copy (.t 34), none, 65560, [2, 0, 1]⟩,
 ⟨(some 35), .extract (.t 31) 0, none, 65568, [3, 2, 0, 1]⟩,
 ⟨(some 36), .extract (.t 31) 1, none, 65576, [3, 2, 0, 1]⟩,
 ⟨(some 9), .alloc [.nils, .nils, (.int .i64 0), .nils], none, 65584, []⟩,
 ⟨none, .store 4 (.t 9) (.t 35), none, 65592, [6, 4, 3, 2, 0, 1]⟩,
 ⟨(some 10), .copy (.t 36), none, 65600, [5, 3, 2, 0, 1, 7, 6, 4]⟩])
 (.seq
 (.seq
 (.region 9 false [
 ⟨(some 37), .load true 4 (.t 9), none, 73728, []⟩,
 ⟨(some 38), .call (.c (.fn 18 [])) [(.t 37)], none, 73736, [0]⟩,
 ⟨(some 39), .not (.t 38), none, 73744, [1, 0]⟩,
 ⟨(some 40), .copy (.t 39), none, 73752, [2, 1, 0]⟩,
 ⟨(some 41), .copy (.t 10), (some (3, 40, false)), 73760, [3, 2, 1, 0]⟩,
 ⟨(some 42), .len (.t 41), (some (3, 40, false)), 73768, [4, 3, 2, 1, 0]⟩,
 ⟨(some 43), .load true 4 (.t 6), (some (3, 40, false)), 73776, [3, 2, 1, 0]⟩,
 ⟨(some 44), .call (.c (.fn 19 [])) [(.t 43)], (some (3, 40, false)), 73784, [6, 3, 2, 1, 0]⟩,
 ⟨(some 45), .bin .neq (.t 42) (.t 44), (some (3, 40, false)), 73792, [5, 4, 3, 2, 1, 0, 7, 6]⟩,
 ⟨(some 46), .pick (.t 40) (.c (.bool true)) (.t 45), none, 73800, [3, 2, 1, 0, 8, 5, 4, 7, 6]⟩,
 ⟨(some 47), .copy (.t 46), none, 73808, [9, 3, 2, 1, 0, 8, 5, 4, 7, 6]⟩,
 ⟨(some 48), .copy (.t 10), (some (10, 47, false)), 73816, [10, 9, 3, 2, 1, 0, 8, 5, 4, 7, 6]⟩,
 ⟨(some 49), .call (.c (.fn 23 [])) [(.t 48)], (some (10, 47, false)), 73824, [11, 10, 9, 3, 2, 1, 0, 8, 5, 4, 7, 6]⟩,
 ⟨(some 50), .copy (.t 7), (some (10, 47, false)), 73832, [10, 9, 3, 2, 1, 0, 8, 5, 4, 7, 6]⟩,
 ⟨(some 51), .bin .neq (.t 49) (.t 50), (some (10, 47, false)), 73840, [12, 11, 10, 9, 3, 2, 1, 0, 8, 5, 4, 7, 6, 13]⟩,
 ⟨(some 52), .pick (.t 47) (.c (.bool true)) (.t 51), none, 73848, [10, 9, 3, 2, 1, 0, 8, 5, 4, 7, 6, 14, 12, 11, 13]⟩,
 ⟨(some 53), .copy (.t 52), none, 73856, [15, 10, 9, 3, 2, 1, 0, 8, 5, 4, 7, 6, 14, 12, 11, 13]⟩,
 ⟨(some 54), .load true 4 (.t 9), (some (16, 53, false)), 73864, [16, 15, 10, 9, 3, 2, 1, 0, 8, 5, 4, 7, 6, 14, 12, 11, 13]⟩,
 ⟨(some 55), .call (.c (.fn 19 [])) [(.t 54)], (some (16, 53, false)), 73872, [17, 16, 15, 10, 9, 3, 2, 1, 0, 8, 5, 4, 7, 6, 14, 12, 11, 13]⟩,
 ⟨(some 56), .bin .neq (.t 55) (.c (.int .i64 0)), (some (16, 53, false)), 73880, [18, 17, 16, 15, 10, 9, 3, 2, 1, 0, 8, 5, 4, 7, 6, 14, 12, 11, 13]⟩,
 ⟨(some 57), .pick (.t 53) (.c (.bool true)) (.t 56), none, 73888, [16, 15, 10, 9, 3, 2, 1, 0, 8, 5, 4, 7, 6, 14, 12, 11, 13, 19, 18, 17]⟩])
 (.cond (.t 57)
 (.seq
 (.region 10 false [
 ⟨(some 4), .copy (.c (.bool false)), none, 81920, []⟩])
 .ret)
 .skip))
 (.seq
 (.region 11 false [
 ⟨(some 59), .load true 4 (.t 9), none, 90112, []⟩,
 ⟨(some 60), .copy (.t 1), none, 90120, []⟩,
 ⟨(some 61), .conv .i64 (.t 60), none, 90128, [1]⟩,
 ⟨(some 62), .call (.c (.fn 12 [])) [(.t 59), (.t 61)], none, 90136, [0, 2, 1]⟩,
 ⟨(some 58), .copy (.t 62), none, 90144, [3, 0, 2, 1]⟩,
 ⟨(some 63), .extract (.t 58) 0, none, 90152, [4, 3, 0, 2, 1]⟩,
 ⟨(some 64), .extract (.t 58) 1, none, 90160, [4, 3, 0, 2, 1]⟩,
 ⟨(some 11), .alloc [.nils, .nils, (.int .i64 0), .nils], none, 90168, []⟩,
 ⟨none, .store 4 (.t 11) (.t 63), none, 90176, [7, 5, 4, 3, 0, 2, 1]⟩,
 ⟨(some 12), .copy (.t 64), none, 90184, [6, 4, 3, 0, 2, 1, 8, 7, 5]⟩])
 (.seq
 (.region 12 false [
 ⟨(some 65), .load true 4 (.t 11), none, 98304, []⟩,
 ⟨(some 66), .load true 4 (.t 9), none, 98312, []⟩,
 ⟨(some 67), .call (.c (.fn 16 [])) [(.t 65), (.t 66)], none, 98320, [0, 1]⟩,
 ⟨(some 68), .copy (.t 67), none, 98328, [2, 0, 1]⟩,
 ⟨(some 69), .copy (.t 12), (some (3, 68, true)), 98336, [3, 2, 0, 1]⟩,
 ⟨(some 70), .len (.t 69), (some (3, 68, true)), 98344, [4, 3, 2, 0, 1]⟩,
 ⟨(some 71), .bin .eql (.t 70) (.c (.int .i64 0)), (some (3, 68, true)), 98352, [5, 4, 3, 2, 0, 1]⟩,
 ⟨(some 72), .pick (.t 68) (.t 71) (.c (.bool false)), none, 98360, [3, 2, 0, 1, 6, 5, 4]⟩,
 ⟨(some 73), .copy (.t 72), none, 98368, [7, 3, 2, 0, 1, 6, 5, 4]⟩,
 ⟨(some 74), .copy (.t 5), (some (8, 73, true)), 98376, [8, 7, 3, 2, 0, 1, 6, 5, 4]⟩,
 ⟨(some 75), .pick (.t 73) (.t 74) (.c (.bool false)), none, 98384, [8, 7, 3, 2, 0, 1, 6, 5, 4, 9]⟩,
 ⟨(some 4), .copy (.t 75), none, 98392, [10, 8, 7, 3, 2, 0, 1, 6, 5, 4, 9]⟩])
 .ret)))))))))
theorem vf7 : VF Try.prog 7 = some (76, vc7, [.tmp 4]) := by kernel_rfl
/-! What is made -/
structure Mk (s s0 : SchL) : Prop where
  w : s.w = s0.w
  c : s.c = s0.c
  t : s.turn = s0.turn
  j : ∀ l ∈ s.q, ∀ j ∈ l, 0 ≤ j.c ∧ j.c ≤ 80
theorem mk_add {s s0 : SchL} (h : Mk s s0) {j : JobL} (hj : 0 ≤ j.c ∧ j.c ≤ 80) : Mk (addR s j).1 s0 := by
  unfold addR
  split
  · exact h
  · split
    · exact h
    · split
      · exact h
      · refine ⟨h.w, h.c, h.t, fun l hl j' hj' => ?_⟩
        simp only [addL] at hl
        rcases List.mem_or_eq_of_mem_set hl with hl | rfl
        · exact h.j l hl j' hj'
        · rcases List.mem_append.1 hj' with hj' | hj'
          · cases hq : s.q[j.t.toNat]? with
            | none => rw [hq] at hj'; cases hj'
            | some x =>
              rw [hq] at hj'
              exact h.j x (List.mem_of_getElem? hq) j' hj'
          · simp at hj'
            subst hj'
            exact hj
theorem mk_made {n : Nat} {s0 : SchL} : ∀ (l : List (Nat × Nat)) (i : Nat) (s : SchL), Mk s s0 → Mk (madeF n i l s) s0
  | [], i, s, h => h
  | p :: l, i, s, h => mk_made l (i + 1) _ (mk_add h (by simp only [jobAt]; omega))
theorem made_mk (x : RawL) : Mk (madeL x) (newL (weightsL x)) := mk_made _ _ _ ⟨rfl, rfl, rfl, fun l hl j hj => by
  simp only [newL] at hl
  rw [List.eq_of_mem_replicate hl] at hj
  cases hj⟩
theorem made_tot (x : RawL) : totQ (madeL x).q ≤ 5120 := by
  have h1 := (totQ_b (made_mk x).j).2
  have h2 := (madeL_wf x).wt
  omega
set_option maxHeartbeats 4000000 in
theorem budget_law_vc {x : RawL} (hx : RawOk x) {b : Int} (hb1 : -32768 ≤ b) (hb2 : b ≤ 32767) : VC Try.prog 5 [.agg (encRaw x), .int .i16 b] [] (.bool true) [] := by
  have hw := madeL_wf x
  have hm := made_vc hx
  have htot := made_tot x
  have hjb := (made_mk x).j
  generalize madeL x = s at hw hm htot hjb
  obtain ⟨s', l, hr⟩ := runs_total hw b
  obtain ⟨s2, all, hr2⟩ := runs_total hw 5120
  have hrun := run_vc hw hr (by omega) (by omega)
  have hrun2 := run_vc hw hr2 (by omega) (by omega)
  obtain ⟨k, hg, ht, he⟩ := hr.goes hw
  obtain ⟨k2, hg2, ht2, he2⟩ := hr2.goes hw
  have hw' := hr.wf hw
  have hall := all_run hw hg2 he2 htot
  have hpl := budget_plain hw hg he hg2 hall
  have hwait := hg.wait.1
  have hwait2 := hg2.wait.1
  have hwt := hw.wt
  have hlj : ∀ j ∈ l, 0 ≤ j.c ∧ j.c ≤ 1000000 := fun j hj => by
    have := (hg.all hjb).1 j hj
    omega
  have hid := idle_vc (wait_ok hw').1 (wait_ok hw').2
  have htl := total_vc (l := l) (by omega) hlj
  have c1 : IntKind.i64.wrap b = b := wrap64 (by omega) (by omega)
  have m3 : (l.map encJ).length = l.length := by simp
  have m4 : (all.map encJ).length = all.length := by simp
  have g1 : decide (((l.map encJ).length : Int) > 64) = false := by rw [m3]; simp; omega
  have g2 : decide (totalL l > (if (0 : Int) > b then 0 else b)) = false := by
    split <;> simp <;> omega
  have hlt : 0 ≤ totalL l ∧ totalL l ≤ 1000000 * 64 := by
    have := totalL_b hlj
    omega
  refine vc_of vf5 ?_ (Nat.le_of_ble_eq_true rfl) (by intro vs h; cases h)
  repeat first | refine o_copy ?_ | refine nl ?_ | refine ct_seq ?_ | refine rg ?_ | refine ct_block ?_ | refine bq ?_ | refine cv0 sanity_vc ?_ | refine cf hm ?_ | refine o_convE ?_ | refine cf hrun ?_ | refine cv0 htl ?_ | refine o_loads ?_ | refine o_loadp ?_ | refine o_faddr ?_ | refine o_iaddr ?_ | refine o_iaddrO ?_ | refine o_iaddrR ?_ | refine o_sub ?_ | refine o_bin ?_ | refine o_lenq ?_ | refine o_len ?_ | refine o_loadsA ?_ | refine o_loadpA ?_ | refine o_box ?_ | refine o_alloc ?_ | refine o_store ?_ | refine o_not ?_ | refine o_pickt ?_ | refine o_pickf ?_ | refine o_extract ?_ | refine o_minmax ?_ | refine skF ?_ | refine skU ?_
  refine cndf (ct_skip ?_)
  repeat first | refine o_copy ?_ | refine nl ?_ | refine ct_seq ?_ | refine rg ?_ | refine ct_block ?_ | refine bq ?_ | refine cf hrun2 ?_ | refine o_loads ?_ | refine o_loadp ?_ | refine o_faddr ?_ | refine o_iaddr ?_ | refine o_iaddrO ?_ | refine o_iaddrR ?_ | refine o_sub ?_ | refine o_bin ?_ | refine o_lenq ?_ | refine o_len ?_ | refine o_loadsA ?_ | refine o_loadpA ?_ | refine o_box ?_ | refine o_alloc ?_ | refine o_store ?_ | refine o_not ?_ | refine o_pickt ?_ | refine o_pickf ?_ | refine o_extract ?_ | refine o_minmax ?_ | refine skF ?_ | refine skU ?_
  rcases hpl with ⟨h1, h2⟩ | ⟨h1, h2, j, h3, h4⟩
  · have g3 : (((l.map encJ).length : Int) == ((all.map encJ).length : Int)) = true := by rw [m3, m4, h1]; simp
    have g4 : decide (waitL s'.q = 0) = true := by simpa using h2
    refine cndt ?_
    repeat first | refine o_copy ?_ | refine nl ?_ | refine ct_seq ?_ | refine rg ?_ | refine ct_block ?_ | refine bq ?_ | refine cv0 hid ?_ | refine o_loads ?_ | refine o_loadp ?_ | refine o_faddr ?_ | refine o_iaddr ?_ | refine o_iaddrO ?_ | refine o_iaddrR ?_ | refine o_sub ?_ | refine o_bin ?_ | refine o_lenq ?_ | refine o_len ?_ | refine o_loadsA ?_ | refine o_loadpA ?_ | refine o_box ?_ | refine o_alloc ?_ | refine o_store ?_ | refine o_not ?_ | refine o_pickt ?_ | refine o_pickf ?_ | refine o_extract ?_ | refine o_minmax ?_ | refine skF ?_ | refine skU ?_
    exact ct_ret ⟨.inr rfl, oB rfl⟩
  · have g3 : (((l.map encJ).length : Int) == ((all.map encJ).length : Int)) = false := by rw [m3, m4]; simp; omega
    have g4 : decide (((l.map encJ).length : Int) < ((all.map encJ).length : Int)) = true := by rw [m3, m4]; simp; omega
    have g5 : (!decide (waitL s'.q = 0)) = true := by simpa using h2
    have g6 : decide (j.c > b - totalL l) = true := by simpa using h4
    have hje := gm (enc := encJ) (n := ((l.map encJ).length : Int)) h3 (by rw [m3]; omega)
    refine cndf (ct_skip ?_)
    repeat first | refine o_copy ?_ | refine nl ?_ | refine ct_seq ?_ | refine rg ?_ | refine ct_block ?_ | refine bq ?_ | refine cv0 hid ?_ | refine cv0 htl ?_ | refine o_loads ?_ | refine o_loadp ?_ | refine o_faddr ?_ | refine o_iaddr ?_ | refine o_iaddrO ?_ | refine o_iaddrR ?_ | refine o_sub ?_ | refine o_bin ?_ | refine o_lenq ?_ | refine o_len ?_ | refine o_loadsA ?_ | refine o_loadpA ?_ | refine o_box ?_ | refine o_alloc ?_ | refine o_store ?_ | refine o_not ?_ | refine o_pickt ?_ | refine o_pickf ?_ | refine o_extract ?_ | refine o_minmax ?_ | refine skF ?_ | refine skU ?_
    exact ct_ret ⟨.inr rfl, oB rfl⟩

set_option maxHeartbeats 4000000 in
theorem works_law_vc {x : RawL} (hx : RawOk x) {b : Int} (hb1 : -32768 ≤ b) (hb2 : b ≤ 32767) : VC Try.prog 7 [.agg (encRaw x), .int .i16 b] [] (.bool true) [] := by
  have hw := madeL_wf x
  have hm := made_vc hx
  have htot := made_tot x
  have hjb := (made_mk x).j
  generalize madeL x = s at hw hm htot hjb
  have htb := totQ_b hjb
  obtain ⟨s', l, hr⟩ := runs_total hw (totQ s.q)
  have hw' := hr.wf hw
  obtain ⟨s3, m, hr3⟩ := runs_total hw' b
  have hrun := run_vc hw hr (by omega) (by omega)
  have hrun3 := run_vc hw' hr3 (by omega) (by omega)
  obtain ⟨k, hg, ht, he⟩ := hr.goes hw
  obtain ⟨k3, hg3, ht3, he3⟩ := hr3.goes hw'
  have hall := all_run hw hg he (Int.le_refl _)
  obtain ⟨e1, e2, _⟩ := hg3.idle hall
  subst e1; subst e2
  have hwait := hg.wait
  have hwt := hw.wt
  have hlq := hw.lq
  have hn8 := hw.n8
  have hq0 : totQ s3.q = 0 := by
    have h1 := totQ_b (hg.all hjb).2
    omega
  have hlj : ∀ j ∈ l, 0 ≤ j.c ∧ j.c ≤ 1000000 := fun j hj => by
    have := (hg.all hjb).1 j hj
    omega
  have hid := idle_vc (wait_ok hw').1 (wait_ok hw').2
  have hwv := rwaiting_vc (wait_ok hw).1 (wait_ok hw).2
  have hwv' := rwaiting_vc (wait_ok hw').1 (wait_ok hw').2
  have htl := total_vc (l := l) (by omega) hlj
  have hsm := same_vc (WF.small hw') (WF.small hw')
  have c1 : IntKind.i64.wrap b = b := wrap64 (by omega) (by omega)
  have m3 : (l.map encJ).length = l.length := by simp
  have m2 : (s.q.map encQ).length = s.q.length := by simp
  have g1 : (!decide (waitL s3.q = 0)) = false := by simp [hall]
  have g2 : (((l.map encJ).length : Int) != (waitL s.q : Int)) = false := by rw [m3]; simp; omega
  have g3 : (totalL l != totQ s.q) = false := by simp; omega
  have g4 : ((waitL s3.q : Int) != 0) = false := by simp [hall]
  have g5 : decide (s3 = s3) = true := by simp
  refine vc_of vf7 ?_ (Nat.le_of_ble_eq_true rfl) (by intro vs h; cases h)
  repeat first | refine o_copy ?_ | refine nl ?_ | refine ct_seq ?_ | refine rg ?_ | refine ct_block ?_ | refine bq ?_ | refine cv0 sanity_vc ?_ | refine cf hm ?_ | refine o_loads ?_ | refine o_loadp ?_ | refine o_faddr ?_ | refine o_iaddr ?_ | refine o_iaddrO ?_ | refine o_iaddrR ?_ | refine o_add ?_ | refine o_cat ?_ | refine o_bin ?_ | refine o_lenq ?_ | refine o_len ?_ | refine o_loadsA ?_ | refine o_loadpA ?_ | refine o_box ?_ | refine o_alloc ?_ | refine o_store ?_ | refine o_not ?_ | refine o_pickt ?_ | refine o_pickf ?_ | refine o_extract ?_ | refine skF ?_ | refine skU ?_
  refine ct_loopG (fun (g : Nat) => [(1, .int .i16 b), (5, .bool true), (6, .ptr ⟨1, 16400⟩ 1 0 0), (7, .int .i64 (totQ (s.q.take g))), (8, .int .i64 g)]) (fun g => [(⟨1, 16400⟩, ⟨true, false, 4, [encSc s]⟩)]) (fun g => s.q.length - g) (fun g => g ≤ s.q.length) 0 goesD (Nat.zero_le _) ?_
  intro i hi
  repeat first | refine o_copy ?_ | refine nl ?_ | refine ct_seq ?_ | refine rg ?_ | refine ct_block ?_ | refine bq ?_ | refine o_loads ?_ | refine o_loadp ?_ | refine o_faddr ?_ | refine o_iaddr ?_ | refine o_iaddrO ?_ | refine o_iaddrR ?_ | refine o_add ?_ | refine o_cat ?_ | refine o_bin ?_ | refine o_lenq ?_ | refine o_len ?_ | refine o_loadsA ?_ | refine o_loadpA ?_ | refine o_box ?_ | refine o_alloc ?_ | refine o_store ?_ | refine o_not ?_ | refine o_pickt ?_ | refine o_pickf ?_ | refine o_extract ?_ | refine skF ?_ | refine skU ?_
  refine cnd (fun h => ct_skip ?_) (fun h => ct_exit ?_)
  · have hlt : i < s.q.length := by have h' := of_decide_eq_true h; omega
    obtain ⟨y, hy⟩ : ∃ y, s.q[i]? = some y := ⟨_, List.getElem?_eq_getElem hlt⟩
    have hye := gm (enc := encQ) (n := (i : Int)) hy (by omega)
    have hyl := waitL_get hy
    have hyt := total_vc (l := y) (by omega) (fun j hj => by have := hjb y (List.mem_of_getElem? hy) j hj; omega)
    have hst := totQ_take hy
    have hq1 := totQ_b (q := s.q.take i) (c := 80) fun l hl => hjb l (List.mem_of_mem_take hl)
    have hq2 := waitL_take s.q i
    have hq3 := totalL_b (hjb y (List.mem_of_getElem? hy))
    have hadd : IntKind.i64.wrap (totQ (s.q.take i) + totalL y) = totQ (s.q.take (i + 1)) := by
      rw [hst]
      exact wrap64 (by omega) (by omega)
    repeat first | refine o_copy ?_ | refine nl ?_ | refine ct_seq ?_ | refine rg ?_ | refine ct_block ?_ | refine bq ?_ | refine cv0 hyt ?_ | refine o_addE ?_ | refine o_loads ?_ | refine o_loadp ?_ | refine o_faddr ?_ | refine o_iaddr ?_ | refine o_iaddrO ?_ | refine o_iaddrR ?_ | refine o_add ?_ | refine o_cat ?_ | refine o_bin ?_ | refine o_lenq ?_ | refine o_len ?_ | refine o_loadsA ?_ | refine o_loadpA ?_ | refine o_box ?_ | refine o_alloc ?_ | refine o_store ?_ | refine o_not ?_ | refine o_pickt ?_ | refine o_pickf ?_ | refine o_extract ?_ | refine skF ?_ | refine skU ?_
    exact agn (i + 1) (by omega) goesD
  · have hge : i = s.q.length := by have h' := of_decide_eq_false h; omega
    rw [hge, List.take_length]
    repeat first | refine o_copy ?_ | refine nl ?_ | refine ct_seq ?_ | refine rg ?_ | refine ct_block ?_ | refine bq ?_ | refine cf hrun ?_ | refine cv0 hid ?_ | refine cv0 hwv ?_ | refine cv0 htl ?_ | refine cv0 hwv' ?_ | refine o_loads ?_ | refine o_loadp ?_ | refine o_faddr ?_ | refine o_iaddr ?_ | refine o_iaddrO ?_ | refine o_iaddrR ?_ | refine o_add ?_ | refine o_cat ?_ | refine o_bin ?_ | refine o_lenq ?_ | refine o_len ?_ | refine o_loadsA ?_ | refine o_loadpA ?_ | refine o_box ?_ | refine o_alloc ?_ | refine o_store ?_ | refine o_not ?_ | refine o_pickt ?_ | refine o_pickf ?_ | refine o_extract ?_ | refine skF ?_ | refine skU ?_
    refine cndf (ct_skip ?_)
    repeat first | refine o_copy ?_ | refine nl ?_ | refine ct_seq ?_ | refine rg ?_ | refine ct_block ?_ | refine bq ?_ | refine o_convE ?_ | refine cf hrun3 ?_ | refine cv0 hsm ?_ | refine o_loads ?_ | refine o_loadp ?_ | refine o_faddr ?_ | refine o_iaddr ?_ | refine o_iaddrO ?_ | refine o_iaddrR ?_ | refine o_add ?_ | refine o_cat ?_ | refine o_bin ?_ | refine o_lenq ?_ | refine o_len ?_ | refine o_loadsA ?_ | refine o_loadpA ?_ | refine o_box ?_ | refine o_alloc ?_ | refine o_store ?_ | refine o_not ?_ | refine o_pickt ?_ | refine o_pickf ?_ | refine o_extract ?_ | refine skF ?_ | refine skU ?_
    exact ct_ret ⟨.inr rfl, oB rfl⟩
abbrev encH (n : Int) : List PV := [.int .i16 n]
def HOk (w : List Int) : Prop := (∀ n ∈ w, -32768 ≤ n ∧ n ≤ 32767) ∧ w.length ≤ 9223372036854775807
theorem take_v {lvl site : Nat} {tf : TF} {hf : HF} {x y : VX} {l : List JobL} {n : Nat} (hn : n ≤ l.length) (h1 : ev tf x = some (.sh false (l.map encJ))) (h2 : ev tf y = some (.int .i64 n)) :
      vop lvl site tf hf (.slsl 3 x none (some y) none) = some ⟨.sh false ((l.take n).map encJ), [], []⟩ := by
  have := v_slsh (lvl := lvl) (site := site) (hf := hf) (esz := 3) (lo := none) (hi := some y) (mx := none) (a := 0) (z := n) (c := (l.map encJ).length) h1 rfl (by simp only [optInt, h2, Option.bind_some]) rfl (by omega) (by omega) (by simp; omega) (by omega) (fun e he => by
    obtain ⟨j, _, rfl⟩ := List.mem_map.1 he
    rfl)
  rw [this]
  simp [List.map_take]
set_option maxHeartbeats 8000000 in
theorem order_law_vc {x : RawL} (hx : RawOk x) {w : List Int} (hwk : HOk w) : VC Try.prog 6 [.agg (encRaw x), .sh false (w.map encH)] [] (.bool true) [] := by
  have hw0 := madeL_wf x
  have hm := made_vc hx
  have htot := made_tot x
  generalize madeL x = s0 at hw0 hm htot
  obtain ⟨s2, all, hr2⟩ := runs_total hw0 5120
  have hrun2 := run_vc hw0 hr2 (by omega) (by omega)
  obtain ⟨k2, hg2, ht2, he2⟩ := hr2.goes hw0
  have hall := all_run hw0 hg2 he2 htot
  have hwait2 := hg2.wait.1
  have hwt0 := hw0.wt
  have hwl : (w.map encH).length = w.length := by simp
  have m4 : (all.map encJ).length = all.length := by simp
  refine vc_of vf6 ?_ (Nat.le_of_ble_eq_true rfl) (by intro vs h; cases h)
  repeat first | refine o_copy ?_ | refine nl ?_ | refine ct_seq ?_ | refine rg ?_ | refine ct_block ?_ | refine bq ?_ | refine cv0 sanity_vc ?_ | refine cf hm ?_ | refine cf hrun2 ?_ | refine o_loads ?_ | refine o_loadp ?_ | refine o_faddr ?_ | refine o_iaddr ?_ | refine o_iaddrO ?_ | refine o_iaddrR ?_ | refine o_add ?_ | refine o_cat ?_ | refine o_bin ?_ | refine o_lenq ?_ | refine o_len ?_ | refine o_loadsA ?_ | refine o_loadpA ?_ | refine o_box ?_ | refine o_alloc ?_ | refine o_bslice ?_ | refine o_store ?_ | refine o_pickt ?_ | refine o_pickf ?_ | refine o_extract ?_ | refine skF ?_ | refine skU ?_
  refine ct_loopG (fun (g : Nat × SchL × List JobL) => [(1, .sh false (w.map encH)), (5, .bool true), (6, .ptr ⟨1, 16400⟩ 1 0 0), (8, .sh false (all.map encJ)), (9, ownV ⟨1, 32768⟩ (g.2.2.map encJ)), (10, .int .i64 g.1)]) (fun g => [(⟨1, 16400⟩, ⟨true, false, 4, [encSc g.2.1]⟩), (⟨1, 32768⟩, blkV 3 (g.2.2.map encJ))]) (fun g => 12 - g.1)
    (fun g => g.1 ≤ 12 ∧ g.1 ≤ w.length ∧ ∃ k, Goes s0 g.2.2 g.2.1 k) (0, s0, []) goesD ⟨by omega, Nat.zero_le _, 0, .nil _⟩ ?_
  rintro ⟨i, s, got⟩ ⟨hi, hiw, k, hg⟩
  dsimp only at hi hiw hg ⊢
  have hw := hg.wf hw0
  have hgl := hg.wait.1
  have fin : ∀ {b : Bool}, True := trivial
  have hop := order_plain hg hg2 hall
  have m5 : (got.map encJ).length = got.length := by simp
  have f1 : decide (((got.map encJ).length : Int) ≤ ((all.map encJ).length : Int)) = true := by rw [m4, m5]; simp; omega
  have f2 : decide (got = all.take (got.map encJ).length) = true := by rw [m5]; simpa using hop.2
  have hsj := same_jobs_vc (a := got) (b := all.take (got.map encJ).length) (by omega) (by simp; omega)
  by_cases h1 : i < w.length
  · have g1 : decide ((i : Int) < ((w.map encH).length : Int)) = true := by rw [hwl]; simpa using h1
    by_cases h2 : i < 12
    · have g2 : decide ((i : Int) < 12) = true := by simp; omega
      obtain ⟨b, hb⟩ : ∃ b, w[i]? = some b := ⟨_, List.getElem?_eq_getElem h1⟩
      have hbe := gm (enc := encH) (n := (i : Int)) hb (by omega)
      have hbb := hwk.1 b (List.mem_of_getElem? hb)
      have c1 : IntKind.i64.wrap b = b := wrap64 (by omega) (by omega)
      obtain ⟨s', l, hr⟩ := runs_total hw b
      have hrun := run_vc hw hr (by omega) (by omega)
      obtain ⟨k', hg', _, _⟩ := hr.goes hw
      have hw' := hr.wf hw
      have hlens := hg'.lens
      have hwl2 := hg'.wait.1
      have z1 : (((s'.q.map encQ).length : Int) != ((s.q.map encQ).length : Int)) = false := by simp [hlens.2]
      have z2 : (((s'.w.map encI).length : Int) != ((s.w.map encI).length : Int)) = false := by simp [hlens.1]
      have z3 : (((s'.c.map encI).length : Int) != ((s.c.map encI).length : Int)) = false := by simp [hw'.lc, hw.lc, hlens.1]
      have z4 : decide ((s'.turn : Int) < 0) = false := by simp
      have z5 : decide ((s'.turn : Int) ≥ ((s'.w.map encI).length : Int)) = false := by have := hw'.tn; simp; omega
      repeat first | refine o_copy ?_ | refine nl ?_ | refine ct_seq ?_ | refine rg ?_ | refine ct_block ?_ | refine bq ?_ | refine o_loads ?_ | refine o_loadp ?_ | refine o_faddr ?_ | refine o_iaddr ?_ | refine o_iaddrO ?_ | refine o_iaddrR ?_ | refine o_add ?_ | refine o_cat ?_ | refine o_bin ?_ | refine o_lenq ?_ | refine o_len ?_ | refine o_loadsA ?_ | refine o_loadpA ?_ | refine o_box ?_ | refine o_alloc ?_ | refine o_bslice ?_ | refine o_store ?_ | refine o_pickt ?_ | refine o_pickf ?_ | refine o_extract ?_ | refine skF ?_ | refine skU ?_
      refine cndt (ct_skip ?_)
      repeat first | refine o_copy ?_ | refine nl ?_ | refine ct_seq ?_ | refine rg ?_ | refine ct_block ?_ | refine bq ?_ | refine o_convE ?_ | refine cf hrun ?_ | refine o_loads ?_ | refine o_loadp ?_ | refine o_faddr ?_ | refine o_iaddr ?_ | refine o_iaddrO ?_ | refine o_iaddrR ?_ | refine o_add ?_ | refine o_cat ?_ | refine o_bin ?_ | refine o_lenq ?_ | refine o_len ?_ | refine o_loadsA ?_ | refine o_loadpA ?_ | refine o_box ?_ | refine o_alloc ?_ | refine o_bslice ?_ | refine o_store ?_ | refine o_pickt ?_ | refine o_pickf ?_ | refine o_extract ?_ | refine skF ?_ | refine skU ?_
      refine cndf (ct_skip ?_)
      repeat first | refine o_copy ?_ | refine nl ?_ | refine ct_seq ?_ | refine rg ?_ | refine ct_block ?_ | refine bq ?_ | refine o_v (vaps encJ got l) ?_ | refine o_loads ?_ | refine o_loadp ?_ | refine o_faddr ?_ | refine o_iaddr ?_ | refine o_iaddrO ?_ | refine o_iaddrR ?_ | refine o_add ?_ | refine o_cat ?_ | refine o_bin ?_ | refine o_lenq ?_ | refine o_len ?_ | refine o_loadsA ?_ | refine o_loadpA ?_ | refine o_box ?_ | refine o_alloc ?_ | refine o_bslice ?_ | refine o_store ?_ | refine o_pickt ?_ | refine o_pickf ?_ | refine o_extract ?_ | refine skF ?_ | refine skU ?_
      exact agn (i + 1, s', got ++ l) ⟨(by simp only; omega), (by simp only; omega), _, hg.trans hg'⟩ goesD
    · have g2 : decide ((i : Int) < 12) = false := by simp; omega
      repeat first | refine o_copy ?_ | refine nl ?_ | refine ct_seq ?_ | refine rg ?_ | refine ct_block ?_ | refine bq ?_ | refine o_loads ?_ | refine o_loadp ?_ | refine o_faddr ?_ | refine o_iaddr ?_ | refine o_iaddrO ?_ | refine o_iaddrR ?_ | refine o_add ?_ | refine o_cat ?_ | refine o_bin ?_ | refine o_lenq ?_ | refine o_len ?_ | refine o_loadsA ?_ | refine o_loadpA ?_ | refine o_box ?_ | refine o_alloc ?_ | refine o_bslice ?_ | refine o_store ?_ | refine o_pickt ?_ | refine o_pickf ?_ | refine o_extract ?_ | refine skF ?_ | refine skU ?_
      refine cndf (ct_exit ?_)
      repeat first | refine o_copy ?_ | refine nl ?_ | refine ct_seq ?_ | refine rg ?_ | refine ct_block ?_ | refine bq ?_ | refine o_v0 (take_v (l := all) (n := (got.map encJ).length) (by omega) rfl rfl) ?_ | refine cv0 hsj ?_ | refine o_loads ?_ | refine o_loadp ?_ | refine o_faddr ?_ | refine o_iaddr ?_ | refine o_iaddrO ?_ | refine o_iaddrR ?_ | refine o_add ?_ | refine o_cat ?_ | refine o_bin ?_ | refine o_lenq ?_ | refine o_len ?_ | refine o_loadsA ?_ | refine o_loadpA ?_ | refine o_box ?_ | refine o_alloc ?_ | refine o_bslice ?_ | refine o_store ?_ | refine o_pickt ?_ | refine o_pickf ?_ | refine o_extract ?_ | refine skF ?_ | refine skU ?_
      exact ct_ret ⟨.inr rfl, oB rfl⟩
  · have g1 : decide ((i : Int) < ((w.map encH).length : Int)) = false := by rw [hwl]; simp; omega
    repeat first | refine o_copy ?_ | refine nl ?_ | refine ct_seq ?_ | refine rg ?_ | refine ct_block ?_ | refine bq ?_ | refine o_loads ?_ | refine o_loadp ?_ | refine o_faddr ?_ | refine o_iaddr ?_ | refine o_iaddrO ?_ | refine o_iaddrR ?_ | refine o_add ?_ | refine o_cat ?_ | refine o_bin ?_ | refine o_lenq ?_ | refine o_len ?_ | refine o_loadsA ?_ | refine o_loadpA ?_ | refine o_box ?_ | refine o_alloc ?_ | refine o_bslice ?_ | refine o_store ?_ | refine o_pickt ?_ | refine o_pickf ?_ | refine o_extract ?_ | refine skF ?_ | refine skU ?_
    refine cndf (ct_exit ?_)
    repeat first | refine o_copy ?_ | refine nl ?_ | refine ct_seq ?_ | refine rg ?_ | refine ct_block ?_ | refine bq ?_ | refine o_v0 (take_v (l := all) (n := (got.map encJ).length) (by omega) rfl rfl) ?_ | refine cv0 hsj ?_ | refine o_loads ?_ | refine o_loadp ?_ | refine o_faddr ?_ | refine o_iaddr ?_ | refine o_iaddrO ?_ | refine o_iaddrR ?_ | refine o_add ?_ | refine o_cat ?_ | refine o_bin ?_ | refine o_lenq ?_ | refine o_len ?_ | refine o_loadsA ?_ | refine o_loadpA ?_ | refine o_box ?_ | refine o_alloc ?_ | refine o_bslice ?_ | refine o_store ?_ | refine o_pickt ?_ | refine o_pickf ?_ | refine o_extract ?_ | refine skF ?_ | refine skU ?_
    exact ct_ret ⟨.inr rfl, oB rfl⟩
end Go.Proofs
