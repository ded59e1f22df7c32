/- TraceReads returns true for every list of raw pairs, list of raw messages and text: following a key, and reading where it comes from, gives what the effect of the messages has under it; the package variable trace.steps is tied to the program's text. -/
import Derived.Test.YtlpjfoijjlmgeaaGreatDoorCards
import Derived.Test.YtlpjfoijjlmgeaaGreatDoorTie
import Derived.Test.YtlpjfoijjlmgeaaGreatDoorLReads
import Derived.Test.YtlpjfoijjlmgeaaGreatDoorVD
import Derived.WalkKit
import Derived.ProofKit
import Derived.OpenShut
import Derived.ShutString
import Derived.ChangeOld
import Derived.Below
import Derived.SizedLaws
import Derived.LaidMore
import Derived.LaidHandle
import Derived.SevenTiedAt
import Derived.Stop.Joined
set_option linter.unusedVariables false
namespace Go.Proofs.YtlpjfoijjlmgeaaGreatDoor.traceReads
open Go.ChangeShapes Go.WideShapes Go.ChangeAt Go.RowKit Go.V
open Go.ChangeMaps (open_string shut_string)
theorem own : ownKnob Tryz.prog.godebug = none := by kernel_rfl
theorem xEv : laidOutB Tryz.prog = true := by kernel_rfl
theorem xJA (os : Os) (args : Array Value) : laidMetH Tryz.prog [("downspout/trace.steps", Rows.laid_downspout_trace_steps)] ((World.doorLaid Tryz.prog 600 os).forCall (fun _ _ => 0) ⟨#[], args, []⟩).memory :=
  laidMetH_of_parts3 (fuel := 8) (laidMet_of_run' 8 (by kernel_rfl) (by kernel_rfl)) (by kernel_rfl) (by kernel_rfl)
set_option maxRecDepth 100000 in
theorem glb {W : World} (h : laidMetH Tryz.prog [("downspout/trace.steps", Rows.laid_downspout_trace_steps)] W) : GlbW W := by
  intro p hp
  obtain rfl := List.mem_singleton.1 hp
  obtain ⟨g, t, cs, fuel, q, hg, ht, hv, hd⟩ := h.funcs (List.mem_singleton.2 rfl)
  obtain rfl := Option.some.inj ((show Tryz.prog.globalNamed "downspout/trace.steps" = some 0 by kernel_rfl).symm.trans hg)
  obtain rfl := Option.some.inj ((show (Tryz.prog.globals[0]?).map (·.type) = some 75 by kernel_rfl).symm.trans ht)
  have c1 : Tryz.prog.cellsOf 74 = 1 := by kernel_rfl
  have c2 : Tryz.prog.cellsOf 75 = 7 := by kernel_rfl
  obtain ⟨xs, m, _, ex, hlen, hl, hel⟩ := DataW.trod_array Tryz.underlying75 hd
  rw [c2] at hlen
  obtain ⟨l⟩ := cs
  match l, hlen with
  | [a0, a1, a2, a3, a4, a5, a6], _ =>
    match xs, hl with
    | [x0, x1, x2, x3, x4, x5, x6], _ =>
      have ee := (DataW.agg.inj (Prod.mk.inj ex).1)
      have e0 : x0.1 = .nil := Option.some.inj (congrArg (fun z => z[0]?) ee.symm)
      have e1 : x1.1 = .held [100, 111, 119, 110, 115, 112, 111, 117, 116, 47, 116, 114, 97, 99, 101, 46, 115, 116, 101, 112, 115, 36, 49] := Option.some.inj (congrArg (fun z => z[1]?) ee.symm)
      have e2 : x2.1 = .held [100, 111, 119, 110, 115, 112, 111, 117, 116, 47, 116, 114, 97, 99, 101, 46, 115, 116, 101, 112, 115, 36, 50] := Option.some.inj (congrArg (fun z => z[2]?) ee.symm)
      have e3 : x3.1 = .held [100, 111, 119, 110, 115, 112, 111, 117, 116, 47, 116, 114, 97, 99, 101, 46, 115, 116, 101, 112, 115, 36, 51] := Option.some.inj (congrArg (fun z => z[3]?) ee.symm)
      have e4 : x4.1 = .held [100, 111, 119, 110, 115, 112, 111, 117, 116, 47, 116, 114, 97, 99, 101, 46, 115, 116, 101, 112, 115, 36, 52] := Option.some.inj (congrArg (fun z => z[4]?) ee.symm)
      have e5 : x5.1 = .held [100, 111, 119, 110, 115, 112, 111, 117, 116, 47, 116, 114, 97, 99, 101, 46, 98, 97, 99, 107] := Option.some.inj (congrArg (fun z => z[5]?) ee.symm)
      have e6 : x6.1 = .held [100, 111, 119, 110, 115, 112, 111, 117, 116, 47, 116, 114, 97, 99, 101, 46, 115, 116, 101, 112, 115, 36, 53] := Option.some.inj (congrArg (fun z => z[6]?) ee.symm)
      have k0 := hel 0 (by omega)
      rw [c1] at k0
      obtain ⟨x0a, x0b⟩ := x0
      simp only at e0
      subst e0
      obtain rfl : a0 = .nilFunc := xGv Tryz.underlying74 k0
      have k1 := hel 1 (by omega)
      rw [c1] at k1
      obtain ⟨x1a, x1b⟩ := x1
      simp only at e1
      subst e1
      obtain rfl := func_of_trod (f0 := 153) Tryz.underlying74 (by kernel_rfl) k1
      have k2 := hel 2 (by omega)
      rw [c1] at k2
      obtain ⟨x2a, x2b⟩ := x2
      simp only at e2
      subst e2
      obtain rfl := func_of_trod (f0 := 155) Tryz.underlying74 (by kernel_rfl) k2
      have k3 := hel 3 (by omega)
      rw [c1] at k3
      obtain ⟨x3a, x3b⟩ := x3
      simp only at e3
      subst e3
      obtain rfl := func_of_trod (f0 := 156) Tryz.underlying74 (by kernel_rfl) k3
      have k4 := hel 4 (by omega)
      rw [c1] at k4
      obtain ⟨x4a, x4b⟩ := x4
      simp only at e4
      subst e4
      obtain rfl := func_of_trod (f0 := 157) Tryz.underlying74 (by kernel_rfl) k4
      have k5 := hel 5 (by omega)
      rw [c1] at k5
      obtain ⟨x5a, x5b⟩ := x5
      simp only at e5
      subst e5
      obtain rfl := func_of_trod (f0 := 159) Tryz.underlying74 (by kernel_rfl) k5
      have k6 := hel 6 (by omega)
      rw [c1] at k6
      obtain ⟨x6a, x6b⟩ := x6
      simp only at e6
      subst e6
      obtain rfl := func_of_trod (f0 := 160) Tryz.underlying74 (by kernel_rfl) k6
      have hcell := fun j => World.var?_cell (show Tryz.prog.globalNamed "downspout/trace.steps" = some 0 by kernel_rfl) hv j
      refine ⟨?_, by decide, fun j => ([.nilFunc, .func (.func 153) #[] #[], .func (.func 155) #[] #[], .func (.func 156) #[] #[], .func (.func 157) #[] #[], .func (.func 159) #[] #[], .func (.func 160) #[] #[]] : List Value).getD j .nilFunc, fun j r hj => ?_⟩
      · have h0 := hcell 0
        exact xPF h0
      · rw [hcell]
        match j, hj with
        | 0, hj => cases hj; exact ⟨rfl, fun _ _ => .nilf⟩
        | 1, hj => cases hj; exact ⟨rfl, fun _ _ => .fn 153⟩
        | 2, hj => cases hj; exact ⟨rfl, fun _ _ => .fn 155⟩
        | 3, hj => cases hj; exact ⟨rfl, fun _ _ => .fn 156⟩
        | 4, hj => cases hj; exact ⟨rfl, fun _ _ => .fn 157⟩
        | 5, hj => cases hj; exact ⟨rfl, fun _ _ => .fn 159⟩
        | 6, hj => cases hj; exact ⟨rfl, fun _ _ => .fn 160⟩
        | j + 7, hj => simp at hj
set_option maxRecDepth 100000 in
theorem xOc (os : Os) (started : os.Started) (H : Type) (enc : TypeId × Value → H) :
    ReturnsInHanded {} Tryz.checked os 4 .any (fun w args => (Rows.traceReadsSpec.pre enc Tryz.prog Tryz.f4 [] false w args ∧ laidMetH Tryz.prog [("downspout/trace.steps", Rows.laid_downspout_trace_steps)] w) ∧ sizedMet enc Tryz.prog Tryz.f4 (OpenSpec.ofChange Rows.traceReadsSpec) false w args)
      (Rows.traceReadsSpec.post enc Tryz.prog Tryz.f4 false true false false) := by
  refine returnsInHanded_of_change_and (C := Tryz.checked) (X := fun w _ => laidMetH Tryz.prog [("downspout/trace.steps", Rows.laid_downspout_trace_steps)] w) (fun _ _ _ hh h => h.of_heap hh) own started (by kernel_rfl) Tryz.func4
    (ChangeSpec.witness_shaped (enc := enc) (C := Tryz.checked) (os := os) (X := fun w _ => laidMetH Tryz.prog [("downspout/trace.steps", Rows.laid_downspout_trace_steps)] w) false (World.doorLaid Tryz.prog 600 os) #[.slice none 0 0, .slice none 0 0, .string ByteArray.empty] 8 rfl (World.shaped_of_RefB (by kernel_rfl) (by kernel_rfl)) (by kernel_rfl) (by kernel_rfl) (by kernel_rfl) (xJA os _)) ?_
  intro W base args ds gs before hval0 hW _ hsz0 hL _
  have hval : ∀ (j : Nat) t v, Tryz.f4.params[j]? = some t → args[j]? = some v → Value.okWide Tryz.prog W .any base t v := hval0
  have hW' := hW
  obtain ⟨p, q, hA0, hV, rfl, hfz, hnd⟩ := hW
  have hA : DataW.TrodAll enc Tryz.prog W 0 (fun _ => true) true Tryz.f4.params.toList args.toList ds p := hA0
  rw [Tryz.params4] at hA hval
  obtain ⟨v0, vs0, d0, ds0, p0, q0, hargs, rfl, rfl, h0, r0⟩ := trodAll_cons hA
  obtain ⟨v1, vs1, d1, ds1, p1, q1, rfl, rfl, rfl, h1, r1⟩ := trodAll_cons r0
  obtain ⟨v2, vs2, d2, ds2, p2, q2, rfl, rfl, rfl, h2, r2⟩ := trodAll_cons r1
  obtain ⟨rfl, rfl, rfl⟩ := trodAll_nil r2
  obtain rfl : args = #[v0, v1, v2] := by cases args; simp_all
  obtain ⟨rfl, rfl⟩ := trodVars_none hV
  have lt0 : ∀ x ∈ p0, x.block < W.heap.size := by obtain ⟨m, hm⟩ := h0; exact DataW.trod_lt m _ _ _ hm
  obtain ⟨l0, in0, e0⟩ := xKw (dd := 9) (cts := [.int .u8, .int .u8, .int .u8]) Tryz.underlying22 (by kernel_rfl) (hval 0 22 v0 rfl rfl) h0
  have lt1 : ∀ x ∈ p1, x.block < W.heap.size := by obtain ⟨m, hm⟩ := h1; exact DataW.trod_lt m _ _ _ hm
  obtain ⟨l1, in1, e1⟩ := xKw (dd := 9) (cts := [.int .u8, .int .u8, .int .u8, .int .u8, .int .u8, .int .u8]) Tryz.underlying24 (by kernel_rfl) (hval 1 24 v1 rfl rfl) h1
  have lt2 : ∀ x ∈ p2, x.block < W.heap.size := by obtain ⟨m, hm⟩ := h2; exact DataW.trod_lt m _ _ _ hm
  have k2 := h2
  obtain ⟨a2, rfl, rfl, rfl, y2⟩ := open_string Tryz.underlying9 (hval 2 9 v2 rfl rfl) h2
  clear hA0 hval0 hsz0
  refine (xJI (w := W) (rargs := [v0, v1, .string a2]) (Go.Proofs.traceReads_in l0 in0 l1 in1 a2.data.toList (by simpa using y2)) ⟨e0, e1, xSJ, trivial⟩ (glb hL)).mono fun e W' ⟨he, bel⟩ => ?_
  subst he
  exact ⟨_, rfl, _, _, _, [], _, [], hW', trodAll_mk1 (shut_bool Tryz.underlying4 _), (trodAll_cons_mk (Below.trod xEv (by kernel_rfl) (of_decide_eq_true (by kernel_rfl)) h0 bel lt0) (trodAll_cons_mk (Below.trod xEv (by kernel_rfl) (of_decide_eq_true (by kernel_rfl)) h1 bel lt1) (trodAll_cons_mk (Below.trod xEv (by kernel_rfl) (of_decide_eq_true (by kernel_rfl)) k2 bel lt2) trodAll_mk0))), rfl, bel.frame _, fun h => by cases h⟩
theorem over : Rows.traceReadsRow.holds Tryz.pinned (OpenSpec.ofChange Rows.traceReadsSpec) :=
  OpenClaim.holds_of_wide 4 Tryz.f4 rfl rfl rfl rfl rfl rfl rfl ⟨rfl, rfl, rfl, rfl, rfl⟩ rfl rfl rfl rfl rfl (by kernel_rfl) Tryz.func4 (by kernel_rfl)
    (of_decide_eq_true (by kernel_rfl)) (by unfold Func.isWrapper; first | (rw [if_pos (by decide +kernel)]; kernel_rfl) | (rw [if_neg (by decide +kernel)]; exact ⟨rfl, rfl⟩))
    (fun os started H enc _ => xOc os started H enc)
end Go.Proofs.YtlpjfoijjlmgeaaGreatDoor.traceReads
namespace Go.Proofs.YtlpjfoijjlmgeaaGreatDoor
theorem traceReads_holds : Rows.TraceReadsCardSaid :=
  Claim7.holds_tied_plain_at .later [] [.funcs] true (true, "939bb16bfef6edbe313411f3378a6862f2a6f7837194bda8ff32faca946058e1") false
    traceReads.over (fun _ h => by cases h) (by kernel_rfl) (fun _ h => by cases h) traceReads_row_tie rfl ⟨rfl, rfl⟩ (by kernel_rfl) rfl
    (fun f fn hf hfn => by
      obtain rfl : f = 4 := Option.some.inj ((show Tryz.prog.funcNamed "downspout/downspoutlaw07.TraceReads" = some 4 by kernel_rfl).symm.trans hf) |>.symm
      obtain rfl : fn = Tryz.f4 := (Option.some.inj (Tryz.func4.symm.trans hfn)).symm
      exact ⟨by kernel_rfl, fun j t ht => by
        rw [Tryz.params4] at ht
        have hm : t ∈ [22, 24, 9] := by simpa using Array.mem_of_getElem? ht
        have hall : ([22, 24, 9].all fun u => !Tryz.prog.wantsStandIn u) = true := by kernel_rfl
        exact (show Tryz.prog.wantsStandIn t = false by simpa using List.all_eq_true.1 hall t hm)⟩)
    (by kernel_rfl)
#print axioms traceReads_holds
end Go.Proofs.YtlpjfoijjlmgeaaGreatDoor
