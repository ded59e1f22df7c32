/- DiffDigests returns true for every list of raw pairs and three numbers: equal tables have the same digest; if one byte of one value, or the last byte of a stamp, is another one, the digest is another one. -/
import Derived.Test.YtgkocobnccdocaaGreatRows
import Derived.Test.YtgkocobnccdocaaGreatLDiffDigests
import Derived.Test.YtgkocobnccdocaaGreatVD
import Derived.WalkKit
import Derived.ProofKit
import Derived.OpenShut
import Derived.ShutString
import Derived.ChangeOld
import Derived.Below
import Derived.SizedLaws
set_option linter.unusedVariables false
namespace Go.Proofs.YtgkocobnccdocaaGreat.diffDigests
open Go.ChangeShapes Go.WideShapes Go.ChangeAt Go.RowKit Go.V
open Go.ChangeMaps (open_string shut_string)
theorem own : ownKnob Tryz.prog.godebug = none := by kernel_rfl
theorem xIU : laidOutB Tryz.prog = true := by kernel_rfl
set_option maxRecDepth 100000 in
theorem xQw (os : Os) (started : os.Started) (H : Type) (enc : TypeId × Value → H) :
    ReturnsInHanded {} Tryz.checked os 6 .any (Rows.diffDigestsSpec.pre6 enc Tryz.prog Tryz.f6 Rows.diffDigestsRow.domain false) (Rows.diffDigestsSpec.post enc Tryz.prog Tryz.f6 false true false false) := by
  refine returnsInHanded_of_change_sized (C := Tryz.checked) own started (by kernel_rfl) Tryz.func6
    (ChangeSpec.witness6 (enc := enc) (C := Tryz.checked) false ⟨#[], #[.slice none 0 0, .agg #[.int .u8 0, .int .u8 0, .int .u8 0]], []⟩ 8 (by kernel_rfl) (by kernel_rfl) (by kernel_rfl) (by kernel_rfl)) ?_
  intro W base args ds gs before hval0 hW hcnd hsz0 _
  have hval : ∀ (j : Nat) t v, Tryz.f6.params[j]? = some t → args[j]? = some v → Value.okWide Tryz.prog W .any base t v := hval0
  have hW' := hW
  obtain ⟨p, q, hA0, hV, rfl, hfz, hnd⟩ := hW
  have hA : DataW.TrodAll enc Tryz.prog W 0 (fun _ => true) true Tryz.f6.params.toList args.toList ds p := hA0
  rw [Tryz.params6] at hA hval
  obtain ⟨v0, vs0, d0, ds0, p0, q0, hargs, rfl, rfl, h0, r0⟩ := trodAll_cons hA
  obtain ⟨v1, vs1, d1, ds1, p1, q1, rfl, rfl, rfl, h1, r1⟩ := trodAll_cons r0
  obtain ⟨rfl, rfl, rfl⟩ := trodAll_nil r1
  obtain rfl : args = #[v0, v1] := by cases args; simp_all
  obtain ⟨rfl, rfl⟩ := trodVars_none hV
  have lt0 : ∀ x ∈ p0, x.block < W.heap.size := by obtain ⟨m, hm⟩ := h0; exact DataW.trod_lt m _ _ _ hm
  obtain ⟨l0, in0, e0⟩ := xMf (dd := 9) (cts := [.int .u8, .int .u8, .int .u8]) Tryz.underlying51 (by kernel_rfl) (hval 0 51 v0 rfl rfl) h0
  have lt1 : ∀ x ∈ p1, x.block < W.heap.size := by obtain ⟨m, hm⟩ := h1; exact DataW.trod_lt m _ _ _ hm
  obtain ⟨qs1, len1, in1, e1⟩ := xSp (dd := 9) (cts := [.int .u8, .int .u8, .int .u8]) (by kernel_rfl) (by kernel_rfl) (hval 1 52 v1 rfl rfl) h1
  clear hA0 hval0 hsz0
  refine (xKx (w := W) (rargs := [v0, v1]) (Go.Proofs.diffDigests_in l0 in0 qs1 len1 in1) ⟨e0, e1, trivial⟩).mono fun e W' ⟨he, bel⟩ => ?_
  subst he
  exact ⟨_, rfl, _, _, _, [], _, [], hW', trodAll_mk1 (shut_bool Tryz.underlying4 _), (trodAll_cons_mk (Below.trod xIU (by kernel_rfl) (of_decide_eq_true (by kernel_rfl)) h0 bel lt0) (trodAll_cons_mk (Below.trod xIU (by kernel_rfl) (of_decide_eq_true (by kernel_rfl)) h1 bel lt1) trodAll_mk0)), rfl, bel.frame _, fun h => by cases h⟩
theorem over : Rows.diffDigestsRow.holds Tryz.pinned (OpenSpec.ofChange Rows.diffDigestsSpec) :=
  OpenClaim.holds_of_wide 6 Tryz.f6 rfl rfl rfl rfl rfl rfl rfl ⟨rfl, rfl, rfl, rfl, rfl⟩ rfl rfl rfl rfl rfl (by kernel_rfl) Tryz.func6 (by kernel_rfl)
    (of_decide_eq_true (by kernel_rfl)) (by unfold Func.isWrapper; first | (rw [if_pos (by decide +kernel)]; kernel_rfl) | (rw [if_neg (by decide +kernel)]; exact ⟨rfl, rfl⟩))
    (fun os started H enc _ => xQw os started H enc)
end Go.Proofs.YtgkocobnccdocaaGreat.diffDigests
namespace Go.Proofs.YtgkocobnccdocaaGreat
theorem diffDigests_holds : Rows.DiffDigestsSaid := diffDigests.over
#print axioms diffDigests_holds
end Go.Proofs.YtgkocobnccdocaaGreat
