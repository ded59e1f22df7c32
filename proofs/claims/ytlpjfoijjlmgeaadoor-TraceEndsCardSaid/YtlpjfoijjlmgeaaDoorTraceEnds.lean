/- TraceEnds returns true for every list of raw messages, text and number: through no messages a key is itself, after a Drop of all keys nothing is left, and a Put after all others tells all of a key; the package variable trace.steps is tied to the program's text. -/
import Derived.Test.YtlpjfoijjlmgeaaDoorCards
import Derived.Test.YtlpjfoijjlmgeaaDoorTie
import Derived.Test.YtlpjfoijjlmgeaaDoorLEnds
import Derived.Test.YtlpjfoijjlmgeaaDoorVD
import Derived.WalkKit
import Derived.ProofKit
import Derived.OpenShut
import Derived.ShutString
import Derived.ChangeOld
import Derived.Below
import Derived.SizedLaws
import Derived.LaidMore
import Derived.LaidHandle
import Derived.SevenTiedAt
import Derived.Stop.Joined
set_option linter.unusedVariables false
namespace Go.Proofs.YtlpjfoijjlmgeaaDoor.traceEnds
open Go.ChangeShapes Go.WideShapes Go.ChangeAt Go.RowKit Go.V
open Go.ChangeMaps (open_string shut_string)
theorem own : ownKnob Tryd.prog.godebug = none := by kernel_rfl
theorem xBY : laidOutB Tryd.prog = true := by kernel_rfl
theorem xCe (os : Os) (args : Array Value) : laidMetH Tryd.prog [("downspout/trace.steps", Rows.laid_downspout_trace_steps)] ((World.doorLaid Tryd.prog 600 os).forCall (fun _ _ => 0) ⟨#[], args, []⟩).memory :=
  laidMetH_of_parts3 (fuel := 8) (laidMet_of_run' 8 (by kernel_rfl) (by kernel_rfl)) (by kernel_rfl) (by kernel_rfl)
set_option maxRecDepth 100000 in
theorem glb {W : World} (h : laidMetH Tryd.prog [("downspout/trace.steps", Rows.laid_downspout_trace_steps)] W) : GlbW W := by
  intro p hp
  obtain rfl := List.mem_singleton.1 hp
  obtain ⟨g, t, cs, fuel, q, hg, ht, hv, hd⟩ := h.funcs (List.mem_singleton.2 rfl)
  obtain rfl := Option.some.inj ((show Tryd.prog.globalNamed "downspout/trace.steps" = some 0 by kernel_rfl).symm.trans hg)
  obtain rfl := Option.some.inj ((show (Tryd.prog.globals[0]?).map (·.type) = some 74 by kernel_rfl).symm.trans ht)
  have c1 : Tryd.prog.cellsOf 73 = 1 := by kernel_rfl
  have c2 : Tryd.prog.cellsOf 74 = 7 := by kernel_rfl
  obtain ⟨xs, m, _, ex, hlen, hl, hel⟩ := DataW.trod_array Tryd.underlying74 hd
  rw [c2] at hlen
  obtain ⟨l⟩ := cs
  match l, hlen with
  | [a0, a1, a2, a3, a4, a5, a6], _ =>
    match xs, hl with
    | [x0, x1, x2, x3, x4, x5, x6], _ =>
      have ee := (DataW.agg.inj (Prod.mk.inj ex).1)
      have e0 : x0.1 = .nil := Option.some.inj (congrArg (fun z => z[0]?) ee.symm)
      have e1 : x1.1 = .held [100, 111, 119, 110, 115, 112, 111, 117, 116, 47, 116, 114, 97, 99, 101, 46, 115, 116, 101, 112, 115, 36, 49] := Option.some.inj (congrArg (fun z => z[1]?) ee.symm)
      have e2 : x2.1 = .held [100, 111, 119, 110, 115, 112, 111, 117, 116, 47, 116, 114, 97, 99, 101, 46, 115, 116, 101, 112, 115, 36, 50] := Option.some.inj (congrArg (fun z => z[2]?) ee.symm)
      have e3 : x3.1 = .held [100, 111, 119, 110, 115, 112, 111, 117, 116, 47, 116, 114, 97, 99, 101, 46, 115, 116, 101, 112, 115, 36, 51] := Option.some.inj (congrArg (fun z => z[3]?) ee.symm)
      have e4 : x4.1 = .held [100, 111, 119, 110, 115, 112, 111, 117, 116, 47, 116, 114, 97, 99, 101, 46, 115, 116, 101, 112, 115, 36, 52] := Option.some.inj (congrArg (fun z => z[4]?) ee.symm)
      have e5 : x5.1 = .held [100, 111, 119, 110, 115, 112, 111, 117, 116, 47, 116, 114, 97, 99, 101, 46, 98, 97, 99, 107] := Option.some.inj (congrArg (fun z => z[5]?) ee.symm)
      have e6 : x6.1 = .held [100, 111, 119, 110, 115, 112, 111, 117, 116, 47, 116, 114, 97, 99, 101, 46, 115, 116, 101, 112, 115, 36, 53] := Option.some.inj (congrArg (fun z => z[6]?) ee.symm)
      have k0 := hel 0 (by omega)
      rw [c1] at k0
      obtain ⟨x0a, x0b⟩ := x0
      simp only at e0
      subst e0
      obtain rfl : a0 = .nilFunc := xCt Tryd.underlying73 k0
      have k1 := hel 1 (by omega)
      rw [c1] at k1
      obtain ⟨x1a, x1b⟩ := x1
      simp only at e1
      subst e1
      obtain rfl := func_of_trod (f0 := 113) Tryd.underlying73 (by kernel_rfl) k1
      have k2 := hel 2 (by omega)
      rw [c1] at k2
      obtain ⟨x2a, x2b⟩ := x2
      simp only at e2
      subst e2
      obtain rfl := func_of_trod (f0 := 115) Tryd.underlying73 (by kernel_rfl) k2
      have k3 := hel 3 (by omega)
      rw [c1] at k3
      obtain ⟨x3a, x3b⟩ := x3
      simp only at e3
      subst e3
      obtain rfl := func_of_trod (f0 := 116) Tryd.underlying73 (by kernel_rfl) k3
      have k4 := hel 4 (by omega)
      rw [c1] at k4
      obtain ⟨x4a, x4b⟩ := x4
      simp only at e4
      subst e4
      obtain rfl := func_of_trod (f0 := 118) Tryd.underlying73 (by kernel_rfl) k4
      have k5 := hel 5 (by omega)
      rw [c1] at k5
      obtain ⟨x5a, x5b⟩ := x5
      simp only at e5
      subst e5
      obtain rfl := func_of_trod (f0 := 120) Tryd.underlying73 (by kernel_rfl) k5
      have k6 := hel 6 (by omega)
      rw [c1] at k6
      obtain ⟨x6a, x6b⟩ := x6
      simp only at e6
      subst e6
      obtain rfl := func_of_trod (f0 := 121) Tryd.underlying73 (by kernel_rfl) k6
      have hcell := fun j => World.var?_cell (show Tryd.prog.globalNamed "downspout/trace.steps" = some 0 by kernel_rfl) hv j
      refine ⟨?_, by decide, fun j => ([.nilFunc, .func (.func 113) #[] #[], .func (.func 115) #[] #[], .func (.func 116) #[] #[], .func (.func 118) #[] #[], .func (.func 120) #[] #[], .func (.func 121) #[] #[]] : List Value).getD j .nilFunc, fun j r hj => ?_⟩
      · have h0 := hcell 0
        exact xH6 h0
      · rw [hcell]
        match j, hj with
        | 0, hj => cases hj; exact ⟨rfl, fun _ _ => .nilf⟩
        | 1, hj => cases hj; exact ⟨rfl, fun _ _ => .fn 113⟩
        | 2, hj => cases hj; exact ⟨rfl, fun _ _ => .fn 115⟩
        | 3, hj => cases hj; exact ⟨rfl, fun _ _ => .fn 116⟩
        | 4, hj => cases hj; exact ⟨rfl, fun _ _ => .fn 118⟩
        | 5, hj => cases hj; exact ⟨rfl, fun _ _ => .fn 120⟩
        | 6, hj => cases hj; exact ⟨rfl, fun _ _ => .fn 121⟩
        | j + 7, hj => simp at hj
set_option maxRecDepth 100000 in
theorem xFJ (os : Os) (started : os.Started) (H : Type) (enc : TypeId × Value → H) :
    ReturnsInHanded {} Tryd.checked os 7 .any (fun w args => (Rows.traceEndsSpec.pre enc Tryd.prog Tryd.f7 [] false w args ∧ laidMetH Tryd.prog [("downspout/trace.steps", Rows.laid_downspout_trace_steps)] w) ∧ sizedMet enc Tryd.prog Tryd.f7 (OpenSpec.ofChange Rows.traceEndsSpec) false w args)
      (Rows.traceEndsSpec.post enc Tryd.prog Tryd.f7 false true false false) := by
  refine returnsInHanded_of_change_and (C := Tryd.checked) (X := fun w _ => laidMetH Tryd.prog [("downspout/trace.steps", Rows.laid_downspout_trace_steps)] w) (fun _ _ _ hh h => h.of_heap hh) own started (by kernel_rfl) Tryd.func7
    (ChangeSpec.witness_shaped (enc := enc) (C := Tryd.checked) (os := os) (X := fun w _ => laidMetH Tryd.prog [("downspout/trace.steps", Rows.laid_downspout_trace_steps)] w) false (World.doorLaid Tryd.prog 600 os) #[.slice none 0 0, .string ByteArray.empty, .int .u32 0] 8 rfl (World.shaped_of_RefB (by kernel_rfl) (by kernel_rfl)) (by kernel_rfl) (by kernel_rfl) (by kernel_rfl) (xCe os _)) ?_
  intro W base args ds gs before hval0 hW _ hsz0 hL _
  have hval : ∀ (j : Nat) t v, Tryd.f7.params[j]? = some t → args[j]? = some v → Value.okWide Tryd.prog W .any base t v := hval0
  have hW' := hW
  obtain ⟨p, q, hA0, hV, rfl, hfz, hnd⟩ := hW
  have hA : DataW.TrodAll enc Tryd.prog W 0 (fun _ => true) true Tryd.f7.params.toList args.toList ds p := hA0
  rw [Tryd.params7] at hA hval
  obtain ⟨v0, vs0, d0, ds0, p0, q0, hargs, rfl, rfl, h0, r0⟩ := trodAll_cons hA
  obtain ⟨v1, vs1, d1, ds1, p1, q1, rfl, rfl, rfl, h1, r1⟩ := trodAll_cons r0
  obtain ⟨v2, vs2, d2, ds2, p2, q2, rfl, rfl, rfl, h2, r2⟩ := trodAll_cons r1
  obtain ⟨rfl, rfl, rfl⟩ := trodAll_nil r2
  obtain rfl : args = #[v0, v1, v2] := by cases args; simp_all
  obtain ⟨rfl, rfl⟩ := trodVars_none hV
  have lt0 : ∀ x ∈ p0, x.block < W.heap.size := by obtain ⟨m, hm⟩ := h0; exact DataW.trod_lt m _ _ _ hm
  obtain ⟨l0, in0, e0⟩ := xJJ (dd := 9) (cts := [.int .u8, .int .u8, .int .u8, .int .u8, .int .u8, .int .u8]) Tryd.underlying22 (by kernel_rfl) (hval 0 22 v0 rfl rfl) h0
  have lt1 : ∀ x ∈ p1, x.block < W.heap.size := by obtain ⟨m, hm⟩ := h1; exact DataW.trod_lt m _ _ _ hm
  have k1 := h1
  obtain ⟨a1, rfl, rfl, rfl, y1⟩ := open_string Tryd.underlying9 (hval 1 9 v1 rfl rfl) h1
  have lt2 : ∀ x ∈ p2, x.block < W.heap.size := by obtain ⟨m, hm⟩ := h2; exact DataW.trod_lt m _ _ _ hm
  have k2 := h2
  obtain ⟨a2, rfl, rfl, rfl, w2⟩ := open_int Tryd.underlying59 (hval 2 59 v2 rfl rfl) h2
  clear hA0 hval0 hsz0
  refine (xDs (w := W) (rargs := [v0, .string a1, .int .u32 a2]) (Go.Proofs.traceEnds_in l0 in0 a1.data.toList (by simpa using y1) a2 w2) ⟨e0, xJB, xR7, trivial⟩ (glb hL)).mono fun e W' ⟨he, bel⟩ => ?_
  subst he
  exact ⟨_, rfl, _, _, _, [], _, [], hW', trodAll_mk1 (shut_bool Tryd.underlying4 _), (trodAll_cons_mk (Below.trod xBY (by kernel_rfl) (of_decide_eq_true (by kernel_rfl)) h0 bel lt0) (trodAll_cons_mk (Below.trod xBY (by kernel_rfl) (of_decide_eq_true (by kernel_rfl)) k1 bel lt1) (trodAll_cons_mk (Below.trod xBY (by kernel_rfl) (of_decide_eq_true (by kernel_rfl)) k2 bel lt2) trodAll_mk0))), rfl, bel.frame _, fun h => by cases h⟩
theorem over : Rows.traceEndsRow.holds Tryd.pinned (OpenSpec.ofChange Rows.traceEndsSpec) :=
  OpenClaim.holds_of_wide 7 Tryd.f7 rfl rfl rfl rfl rfl rfl rfl ⟨rfl, rfl, rfl, rfl, rfl⟩ rfl rfl rfl rfl rfl (by kernel_rfl) Tryd.func7 (by kernel_rfl)
    (of_decide_eq_true (by kernel_rfl)) (by unfold Func.isWrapper; first | (rw [if_pos (by decide +kernel)]; kernel_rfl) | (rw [if_neg (by decide +kernel)]; exact ⟨rfl, rfl⟩))
    (fun os started H enc _ => xFJ os started H enc)
end Go.Proofs.YtlpjfoijjlmgeaaDoor.traceEnds
namespace Go.Proofs.YtlpjfoijjlmgeaaDoor
theorem traceEnds_holds : Rows.TraceEndsCardSaid :=
  Claim7.holds_tied_plain_at .later [] [.funcs] true (true, "ef8ee46d0cbf33a3422f41d9a3ad2d8e8688fb391aa7a6e33a7fc017554fe74a") false
    traceEnds.over (fun _ h => by cases h) (by kernel_rfl) (fun _ h => by cases h) traceEnds_row_tie rfl ⟨rfl, rfl⟩ (by kernel_rfl) rfl
    (fun f fn hf hfn => by
      obtain rfl : f = 7 := Option.some.inj ((show Tryd.prog.funcNamed "downspout/downspoutlaw07.TraceEnds" = some 7 by kernel_rfl).symm.trans hf) |>.symm
      obtain rfl : fn = Tryd.f7 := (Option.some.inj (Tryd.func7.symm.trans hfn)).symm
      exact ⟨by kernel_rfl, fun j t ht => by
        rw [Tryd.params7] at ht
        have hm : t ∈ [22, 9, 59] := by simpa using Array.mem_of_getElem? ht
        have hall : ([22, 9, 59].all fun u => !Tryd.prog.wantsStandIn u) = true := by kernel_rfl
        exact (show Tryd.prog.wantsStandIn t = false by simpa using List.all_eq_true.1 hall t hm)⟩)
    (by kernel_rfl)
#print axioms traceEnds_holds
end Go.Proofs.YtlpjfoijjlmgeaaDoor
