/- FoldParts returns true for every list of raw messages: what stays is some of the list, its last one among them, and folding it again leaves out none. -/
import Derived.Test.YtehegheohogbpaaGreatRows
import Derived.Test.YtehegheohogbpaaGreatLb
import Derived.Test.YtehegheohogbpaaGreatVD
import Derived.WalkKit
import Derived.ProofKit
import Derived.OpenShut
import Derived.ShutString
import Derived.ChangeOld
import Derived.Below
import Derived.SizedLaws
set_option linter.unusedVariables false
namespace Go.Proofs.YtehegheohogbpaaGreat.foldParts
open Go.ChangeShapes Go.WideShapes Go.ChangeAt Go.RowKit Go.V
open Go.ChangeMaps (open_string shut_string)
theorem own : ownKnob Tryz.prog.godebug = none := by kernel_rfl
theorem xDd : laidOutB Tryz.prog = true := by kernel_rfl
set_option maxRecDepth 100000 in
theorem xIu (os : Os) (started : os.Started) (H : Type) (enc : TypeId × Value → H) :
    ReturnsInHanded {} Tryz.checked os 4 .any (Rows.foldPartsSpec.pre6 enc Tryz.prog Tryz.f4 Rows.foldPartsRow.domain false) (Rows.foldPartsSpec.post enc Tryz.prog Tryz.f4 false true false false) := by
  refine returnsInHanded_of_change_sized (C := Tryz.checked) own started (by kernel_rfl) Tryz.func4
    (ChangeSpec.witness6 (enc := enc) (C := Tryz.checked) false ⟨#[], #[.slice none 0 0], []⟩ 8 (by kernel_rfl) (by kernel_rfl) (by kernel_rfl) (by kernel_rfl)) ?_
  intro W base args ds gs before hval0 hW hcnd hsz0 _
  have hval : ∀ (j : Nat) t v, Tryz.f4.params[j]? = some t → args[j]? = some v → Value.okWide Tryz.prog W .any base t v := hval0
  have hW' := hW
  obtain ⟨p, q, hA0, hV, rfl, hfz, hnd⟩ := hW
  have hA : DataW.TrodAll enc Tryz.prog W 0 (fun _ => true) true Tryz.f4.params.toList args.toList ds p := hA0
  rw [Tryz.params4] at hA hval
  obtain ⟨v0, vs0, d0, ds0, p0, q0, hargs, rfl, rfl, h0, r0⟩ := trodAll_cons hA
  obtain ⟨rfl, rfl, rfl⟩ := trodAll_nil r0
  obtain rfl : args = #[v0] := by cases args; simp_all
  obtain ⟨rfl, rfl⟩ := trodVars_none hV
  have lt0 : ∀ x ∈ p0, x.block < W.heap.size := by obtain ⟨m, hm⟩ := h0; exact DataW.trod_lt m _ _ _ hm
  obtain ⟨l0, in0, e0⟩ := xF3 (dd := 9) (cts := [.int .u8, .int .u8, .int .u8, .int .u8, .int .u8, .int .u8]) Tryz.underlying22 (by kernel_rfl) (hval 0 22 v0 rfl rfl) h0
  clear hA0 hval0 hsz0
  refine (xFk (w := W) (rargs := [v0]) (Go.Proofs.foldParts_in l0 in0) ⟨e0, trivial⟩).mono fun e W' ⟨he, bel⟩ => ?_
  subst he
  exact ⟨_, rfl, _, _, _, [], _, [], hW', trodAll_mk1 (shut_bool Tryz.underlying4 _), (trodAll_cons_mk (Below.trod xDd (by kernel_rfl) (of_decide_eq_true (by kernel_rfl)) h0 bel lt0) trodAll_mk0), rfl, bel.frame _, fun h => by cases h⟩
theorem over : Rows.foldPartsRow.holds Tryz.pinned (OpenSpec.ofChange Rows.foldPartsSpec) :=
  OpenClaim.holds_of_wide 4 Tryz.f4 rfl rfl rfl rfl rfl rfl rfl ⟨rfl, rfl, rfl, rfl, rfl⟩ rfl rfl rfl rfl rfl (by kernel_rfl) Tryz.func4 (by kernel_rfl)
    (of_decide_eq_true (by kernel_rfl)) (by unfold Func.isWrapper; first | (rw [if_pos (by decide +kernel)]; kernel_rfl) | (rw [if_neg (by decide +kernel)]; exact ⟨rfl, rfl⟩))
    (fun os started H enc _ => xIu os started H enc)
end Go.Proofs.YtehegheohogbpaaGreat.foldParts
namespace Go.Proofs.YtehegheohogbpaaGreat
theorem foldParts_holds : Rows.FoldPartsSaid := foldParts.over
#print axioms foldParts_holds
end Go.Proofs.YtehegheohogbpaaGreat
