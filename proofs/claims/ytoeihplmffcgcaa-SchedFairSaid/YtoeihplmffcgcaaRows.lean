/-
  No cell of these rows narrows 'for every input' (looked for: loops, veiled, ifaces, maps, wideKeys, modest, calm, conditions, laid).
  DERIVED. THE GIVEN ROWS OF THIS SEAT. 7 by the template 'for every input the law returns true; each argument reads behind the call as it read before'; 0 by the template 'total and deterministic' (their statements: YtoeihplmffcgcaaTotals.lean).
  GIVEN WITH THE SEED: the statements are not yours to turn. If you find one false, say at which input.
  Laid BY PROGRAM, IN A SANDBOX (cutbox-rows.mjs): the forced cells as the released guide's own fill.sh prints them over the translation 3c394a6ee5dcc678… (all of the seat's roots in one cut). By AI agents, Wed Nov 11 2026. No macro, syntax, notation, axiom, sorry.
-/
import Derived.Test.YtoeihplmffcgcaaChecked
import GoSem.Claim
import GoSem.ClaimJoined
import GoSem.ClaimMapViews
import Derived.JoinedTies
import Derived.KernelRfl
namespace Go.Proofs.Ytoeihplmffcgcaa
/- THE CELL 'sum', in the pinned program and in every row, IS THE sha256 OF THE DUMP (.gsa) THAT YtoeihplmffcgcaaProg.lean LOADS. Nothing in Lean hashes anything: it is a label: what it is worth is what the hold of that sum in a sandbox is worth. -/
noncomputable def Try.pinned : Pinned := { name := "ytoeihplmffcgcaa", sum := "3c394a6ee5dcc6780269607eddebdd7be10836c401acedd38bfe6988948c6244", checked := Try.checked }
namespace Rows
def none {H : Type} : Left H := { results := [], args := [] }

/-- 'downspoutlaw31.SchedMatchesReference': WHATEVER THE INPUT: true; the input reads as it did. -/
def schedMatchesReferenceSpec : ChangeSpec := { name := "schedMatchesReference", fn := fun _ => fun
  | [d1, d2, d3] => { results := [.lit (.bool true)], args := [d1, d2, d3] }
  | _ => none }
def schedMatchesReferenceRow : OpenClaim := { program := "ytoeihplmffcgcaa", sum := "3c394a6ee5dcc6780269607eddebdd7be10836c401acedd38bfe6988948c6244", func := "downspout/downspoutlaw31.SchedMatchesReference", spec := "schedMatchesReference", unfollowed := true, recurses := true, apart := false }
def SchedMatchesReferenceSaid : Prop := schedMatchesReferenceRow.holds Try.pinned (OpenSpec.ofChange schedMatchesReferenceSpec)

/-- ITS FALSE NEIGHBOUR: 'it returns false'. Refute it at one input. -/
def schedMatchesReferenceWrong : ChangeSpec := { name := "schedMatchesReference", fn := fun _ => fun
  | [d1, d2, d3] => { results := [.lit (.bool false)], args := [d1, d2, d3] }
  | _ => none }
def SchedMatchesReferenceWrongFalsely : Prop := schedMatchesReferenceRow.holds Try.pinned (OpenSpec.ofChange schedMatchesReferenceWrong)

/-- 'downspoutlaw31.SchedJobs': WHATEVER THE INPUT: true; the input reads as it did. -/
def schedJobsSpec : ChangeSpec := { name := "schedJobs", fn := fun _ => fun
  | [d1, d2] => { results := [.lit (.bool true)], args := [d1, d2] }
  | _ => none }
def schedJobsRow : OpenClaim := { program := "ytoeihplmffcgcaa", sum := "3c394a6ee5dcc6780269607eddebdd7be10836c401acedd38bfe6988948c6244", func := "downspout/downspoutlaw31.SchedJobs", spec := "schedJobs", unfollowed := true, recurses := true, apart := false }
def SchedJobsSaid : Prop := schedJobsRow.holds Try.pinned (OpenSpec.ofChange schedJobsSpec)

/-- ITS FALSE NEIGHBOUR: 'it returns false'. Refute it at one input. -/
def schedJobsWrong : ChangeSpec := { name := "schedJobs", fn := fun _ => fun
  | [d1, d2] => { results := [.lit (.bool false)], args := [d1, d2] }
  | _ => none }
def SchedJobsWrongFalsely : Prop := schedJobsRow.holds Try.pinned (OpenSpec.ofChange schedJobsWrong)

/-- 'downspoutlaw31.SchedBudget': WHATEVER THE INPUT: true; the input reads as it did. -/
def schedBudgetSpec : ChangeSpec := { name := "schedBudget", fn := fun _ => fun
  | [d1, d2] => { results := [.lit (.bool true)], args := [d1, d2] }
  | _ => none }
def schedBudgetRow : OpenClaim := { program := "ytoeihplmffcgcaa", sum := "3c394a6ee5dcc6780269607eddebdd7be10836c401acedd38bfe6988948c6244", func := "downspout/downspoutlaw31.SchedBudget", spec := "schedBudget", unfollowed := true, recurses := true, apart := false }
def SchedBudgetSaid : Prop := schedBudgetRow.holds Try.pinned (OpenSpec.ofChange schedBudgetSpec)

/-- ITS FALSE NEIGHBOUR: 'it returns false'. Refute it at one input. -/
def schedBudgetWrong : ChangeSpec := { name := "schedBudget", fn := fun _ => fun
  | [d1, d2] => { results := [.lit (.bool false)], args := [d1, d2] }
  | _ => none }
def SchedBudgetWrongFalsely : Prop := schedBudgetRow.holds Try.pinned (OpenSpec.ofChange schedBudgetWrong)

/-- 'downspoutlaw31.SchedOrder': WHATEVER THE INPUT: true; the input reads as it did. -/
def schedOrderSpec : ChangeSpec := { name := "schedOrder", fn := fun _ => fun
  | [d1, d2] => { results := [.lit (.bool true)], args := [d1, d2] }
  | _ => none }
def schedOrderRow : OpenClaim := { program := "ytoeihplmffcgcaa", sum := "3c394a6ee5dcc6780269607eddebdd7be10836c401acedd38bfe6988948c6244", func := "downspout/downspoutlaw31.SchedOrder", spec := "schedOrder", unfollowed := true, recurses := true, apart := false }
def SchedOrderSaid : Prop := schedOrderRow.holds Try.pinned (OpenSpec.ofChange schedOrderSpec)

/-- ITS FALSE NEIGHBOUR: 'it returns false'. Refute it at one input. -/
def schedOrderWrong : ChangeSpec := { name := "schedOrder", fn := fun _ => fun
  | [d1, d2] => { results := [.lit (.bool false)], args := [d1, d2] }
  | _ => none }
def SchedOrderWrongFalsely : Prop := schedOrderRow.holds Try.pinned (OpenSpec.ofChange schedOrderWrong)

/-- 'downspoutlaw31.SchedWorks': WHATEVER THE INPUT: true; the input reads as it did. -/
def schedWorksSpec : ChangeSpec := { name := "schedWorks", fn := fun _ => fun
  | [d1, d2] => { results := [.lit (.bool true)], args := [d1, d2] }
  | _ => none }
def schedWorksRow : OpenClaim := { program := "ytoeihplmffcgcaa", sum := "3c394a6ee5dcc6780269607eddebdd7be10836c401acedd38bfe6988948c6244", func := "downspout/downspoutlaw31.SchedWorks", spec := "schedWorks", unfollowed := true, recurses := true, apart := false }
def SchedWorksSaid : Prop := schedWorksRow.holds Try.pinned (OpenSpec.ofChange schedWorksSpec)

/-- ITS FALSE NEIGHBOUR: 'it returns false'. Refute it at one input. -/
def schedWorksWrong : ChangeSpec := { name := "schedWorks", fn := fun _ => fun
  | [d1, d2] => { results := [.lit (.bool false)], args := [d1, d2] }
  | _ => none }
def SchedWorksWrongFalsely : Prop := schedWorksRow.holds Try.pinned (OpenSpec.ofChange schedWorksWrong)

/-- 'downspoutlaw31.SchedFair': WHATEVER THE INPUT: true; the input reads as it did. -/
def schedFairSpec : ChangeSpec := { name := "schedFair", fn := fun _ => fun
  | [d1, d2] => { results := [.lit (.bool true)], args := [d1, d2] }
  | _ => none }
def schedFairRow : OpenClaim := { program := "ytoeihplmffcgcaa", sum := "3c394a6ee5dcc6780269607eddebdd7be10836c401acedd38bfe6988948c6244", func := "downspout/downspoutlaw31.SchedFair", spec := "schedFair", unfollowed := true, recurses := true, apart := false }
def SchedFairSaid : Prop := schedFairRow.holds Try.pinned (OpenSpec.ofChange schedFairSpec)

/-- ITS FALSE NEIGHBOUR: 'it returns false'. Refute it at one input. -/
def schedFairWrong : ChangeSpec := { name := "schedFair", fn := fun _ => fun
  | [d1, d2] => { results := [.lit (.bool false)], args := [d1, d2] }
  | _ => none }
def SchedFairWrongFalsely : Prop := schedFairRow.holds Try.pinned (OpenSpec.ofChange schedFairWrong)

/-- 'downspoutlaw31.SchedRefuses': WHATEVER THE INPUT: true; the input reads as it did. -/
def schedRefusesSpec : ChangeSpec := { name := "schedRefuses", fn := fun _ => fun
  | [d1, d2, d3] => { results := [.lit (.bool true)], args := [d1, d2, d3] }
  | _ => none }
def schedRefusesRow : OpenClaim := { program := "ytoeihplmffcgcaa", sum := "3c394a6ee5dcc6780269607eddebdd7be10836c401acedd38bfe6988948c6244", func := "downspout/downspoutlaw31.SchedRefuses", spec := "schedRefuses", unfollowed := true, recurses := true, apart := false }
def SchedRefusesSaid : Prop := schedRefusesRow.holds Try.pinned (OpenSpec.ofChange schedRefusesSpec)

/-- ITS FALSE NEIGHBOUR: 'it returns false'. Refute it at one input. -/
def schedRefusesWrong : ChangeSpec := { name := "schedRefuses", fn := fun _ => fun
  | [d1, d2, d3] => { results := [.lit (.bool false)], args := [d1, d2, d3] }
  | _ => none }
def SchedRefusesWrongFalsely : Prop := schedRefusesRow.holds Try.pinned (OpenSpec.ofChange schedRefusesWrong)

/- THE SECOND FORM. 'bulk': how many values and letters a reading holds, each counted each time it is reached (what is shared counts as often as it is met; a slice's spare places count too). A statement '..UptoSaid' is the law's where the arguments, and the package variables that the reading takes, are together of bulk at most 1048576: NARROWER than '..Said'. Prove '..Said' where nothing that the law and all that it calls make is longer than what came in: it says more and counts as full. Else prove '..UptoSaid'. A law counts once. -/
mutual
def uptoBulk {H : Type} : DataW H → Nat
  | .lit (.string bytes) => bytes.length + 1
  | .lit _ => 1
  | .nil => 1
  | .ptr d => uptoBulk d + 1
  | .slice elems spare => uptoBulkAll elems + uptoBulkAll spare + 1
  | .agg parts => uptoBulkAll parts + 1
  | .iface _ d => uptoBulk d + 1
  | .map entries => uptoBulkEntries entries + 1
  | .held _ => 1
def uptoBulkAll {H : Type} : List (DataW H) → Nat
  | [] => 0
  | d :: r => uptoBulk d + uptoBulkAll r
def uptoBulkEntries {H : Type} : List (Lit × DataW H) → Nat
  | [] => 0
  | x :: r => uptoBulkEntry x + uptoBulkEntries r
def uptoBulkEntry {H : Type} : Lit × DataW H → Nat
  | (.string bytes, d) => bytes.length + uptoBulk d + 1
  | (_, d) => uptoBulk d + 1
 end
def uptoSmall : (H : Type) → List (DataW H) → Bool := fun _ ds => decide (uptoBulkAll ds ≤ 1048576)
def OpenSpec.upto (s : _root_.Go.ChangeSpec) : _root_.Go.OpenSpec := { _root_.Go.OpenSpec.ofChange s with cond := some uptoSmall }

/-- 'downspoutlaw31.SchedMatchesReference', WHERE WHAT IT READS IS OF BULK AT MOST 1048576: true; the input reads as it did. -/
def schedMatchesReferenceUptoRow : OpenClaim := { program := "ytoeihplmffcgcaa", sum := "3c394a6ee5dcc6780269607eddebdd7be10836c401acedd38bfe6988948c6244", func := "downspout/downspoutlaw31.SchedMatchesReference", spec := "schedMatchesReference", unfollowed := true, recurses := true, apart := false, narrowed := true }
def SchedMatchesReferenceUptoSaid : Prop := schedMatchesReferenceUptoRow.holds Try.pinned (OpenSpec.upto schedMatchesReferenceSpec)

/-- 'downspoutlaw31.SchedJobs', WHERE WHAT IT READS IS OF BULK AT MOST 1048576: true; the input reads as it did. -/
def schedJobsUptoRow : OpenClaim := { program := "ytoeihplmffcgcaa", sum := "3c394a6ee5dcc6780269607eddebdd7be10836c401acedd38bfe6988948c6244", func := "downspout/downspoutlaw31.SchedJobs", spec := "schedJobs", unfollowed := true, recurses := true, apart := false, narrowed := true }
def SchedJobsUptoSaid : Prop := schedJobsUptoRow.holds Try.pinned (OpenSpec.upto schedJobsSpec)

/-- 'downspoutlaw31.SchedBudget', WHERE WHAT IT READS IS OF BULK AT MOST 1048576: true; the input reads as it did. -/
def schedBudgetUptoRow : OpenClaim := { program := "ytoeihplmffcgcaa", sum := "3c394a6ee5dcc6780269607eddebdd7be10836c401acedd38bfe6988948c6244", func := "downspout/downspoutlaw31.SchedBudget", spec := "schedBudget", unfollowed := true, recurses := true, apart := false, narrowed := true }
def SchedBudgetUptoSaid : Prop := schedBudgetUptoRow.holds Try.pinned (OpenSpec.upto schedBudgetSpec)

/-- 'downspoutlaw31.SchedOrder', WHERE WHAT IT READS IS OF BULK AT MOST 1048576: true; the input reads as it did. -/
def schedOrderUptoRow : OpenClaim := { program := "ytoeihplmffcgcaa", sum := "3c394a6ee5dcc6780269607eddebdd7be10836c401acedd38bfe6988948c6244", func := "downspout/downspoutlaw31.SchedOrder", spec := "schedOrder", unfollowed := true, recurses := true, apart := false, narrowed := true }
def SchedOrderUptoSaid : Prop := schedOrderUptoRow.holds Try.pinned (OpenSpec.upto schedOrderSpec)

/-- 'downspoutlaw31.SchedWorks', WHERE WHAT IT READS IS OF BULK AT MOST 1048576: true; the input reads as it did. -/
def schedWorksUptoRow : OpenClaim := { program := "ytoeihplmffcgcaa", sum := "3c394a6ee5dcc6780269607eddebdd7be10836c401acedd38bfe6988948c6244", func := "downspout/downspoutlaw31.SchedWorks", spec := "schedWorks", unfollowed := true, recurses := true, apart := false, narrowed := true }
def SchedWorksUptoSaid : Prop := schedWorksUptoRow.holds Try.pinned (OpenSpec.upto schedWorksSpec)

/-- 'downspoutlaw31.SchedFair', WHERE WHAT IT READS IS OF BULK AT MOST 1048576: true; the input reads as it did. -/
def schedFairUptoRow : OpenClaim := { program := "ytoeihplmffcgcaa", sum := "3c394a6ee5dcc6780269607eddebdd7be10836c401acedd38bfe6988948c6244", func := "downspout/downspoutlaw31.SchedFair", spec := "schedFair", unfollowed := true, recurses := true, apart := false, narrowed := true }
def SchedFairUptoSaid : Prop := schedFairUptoRow.holds Try.pinned (OpenSpec.upto schedFairSpec)

/-- 'downspoutlaw31.SchedRefuses', WHERE WHAT IT READS IS OF BULK AT MOST 1048576: true; the input reads as it did. -/
def schedRefusesUptoRow : OpenClaim := { program := "ytoeihplmffcgcaa", sum := "3c394a6ee5dcc6780269607eddebdd7be10836c401acedd38bfe6988948c6244", func := "downspout/downspoutlaw31.SchedRefuses", spec := "schedRefuses", unfollowed := true, recurses := true, apart := false, narrowed := true }
def SchedRefusesUptoSaid : Prop := schedRefusesUptoRow.holds Try.pinned (OpenSpec.upto schedRefusesSpec)

end Rows
end Go.Proofs.Ytoeihplmffcgcaa
