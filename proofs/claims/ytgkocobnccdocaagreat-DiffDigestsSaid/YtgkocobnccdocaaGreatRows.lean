/-
  No cell of these rows narrows 'for every input' (looked for: loops, veiled, ifaces, maps, wideKeys, modest, calm, conditions, laid).
  DERIVED. THE GIVEN ROWS OF THIS SEAT. 8 by the template 'for every input the law returns true; each argument reads behind the call as it read before'; 0 by the template 'total and deterministic' (their statements: YtgkocobnccdocaaGreatTotals.lean).
  GIVEN WITH THE SEED: the statements are not yours to turn. If you find one false, say at which input.
  Laid BY PROGRAM, IN A SANDBOX (cutbox-rows.mjs): the forced cells as the released guide's own fill.sh prints them over the translation aa1b92153ec5cc48… (all of the seat's roots in one cut). By AI agents, Wed Nov 11 2026. No macro, syntax, notation, axiom, sorry.
-/
import Derived.Test.YtgkocobnccdocaaGreatChecked
import GoSem.Claim
import GoSem.ClaimJoined
import GoSem.ClaimMapViews
import Derived.JoinedTies
import Derived.KernelRfl
namespace Go.Proofs.YtgkocobnccdocaaGreat
/- THE CELL 'sum', in the pinned program and in every row, IS THE sha256 OF THE DUMP (.gsa) THAT YtgkocobnccdocaaGreatProg.lean LOADS. Nothing in Lean hashes anything: it is a label: what it is worth is what the hold of that sum in a sandbox is worth. -/
noncomputable def Tryz.pinned : Pinned := { name := "ytgkocobnccdocaagreat", sum := "aa1b92153ec5cc484a50593751f09fee6df5437568b294608952789cd3df27ba", checked := Tryz.checked }
namespace Rows
def none {H : Type} : Left H := { results := [], args := [] }

/-- 'downspoutlaw17.DiffMatchesReference': WHATEVER THE INPUT: true; the input reads as it did. -/
def diffMatchesReferenceSpec : ChangeSpec := { name := "diffMatchesReference", fn := fun _ => fun
  | [d1, d2, d3] => { results := [.lit (.bool true)], args := [d1, d2, d3] }
  | _ => none }
def diffMatchesReferenceRow : OpenClaim := { program := "ytgkocobnccdocaagreat", sum := "aa1b92153ec5cc484a50593751f09fee6df5437568b294608952789cd3df27ba", func := "downspout/downspoutlaw17.DiffMatchesReference", spec := "diffMatchesReference", unfollowed := true, recurses := true, apart := false }
def DiffMatchesReferenceSaid : Prop := diffMatchesReferenceRow.holds Tryz.pinned (OpenSpec.ofChange diffMatchesReferenceSpec)

/-- ITS FALSE NEIGHBOUR: 'it returns false'. Refute it at one input. -/
def diffMatchesReferenceWrong : ChangeSpec := { name := "diffMatchesReference", fn := fun _ => fun
  | [d1, d2, d3] => { results := [.lit (.bool false)], args := [d1, d2, d3] }
  | _ => none }
def DiffMatchesReferenceWrongFalsely : Prop := diffMatchesReferenceRow.holds Tryz.pinned (OpenSpec.ofChange diffMatchesReferenceWrong)

/-- 'downspoutlaw17.DiffCommon': WHATEVER THE INPUT: true; the input reads as it did. -/
def diffCommonSpec : ChangeSpec := { name := "diffCommon", fn := fun _ => fun
  | [d1, d2, d3] => { results := [.lit (.bool true)], args := [d1, d2, d3] }
  | _ => none }
def diffCommonRow : OpenClaim := { program := "ytgkocobnccdocaagreat", sum := "aa1b92153ec5cc484a50593751f09fee6df5437568b294608952789cd3df27ba", func := "downspout/downspoutlaw17.DiffCommon", spec := "diffCommon", unfollowed := true, recurses := true, apart := false }
def DiffCommonSaid : Prop := diffCommonRow.holds Tryz.pinned (OpenSpec.ofChange diffCommonSpec)

/-- ITS FALSE NEIGHBOUR: 'it returns false'. Refute it at one input. -/
def diffCommonWrong : ChangeSpec := { name := "diffCommon", fn := fun _ => fun
  | [d1, d2, d3] => { results := [.lit (.bool false)], args := [d1, d2, d3] }
  | _ => none }
def DiffCommonWrongFalsely : Prop := diffCommonRow.holds Tryz.pinned (OpenSpec.ofChange diffCommonWrong)

/-- 'downspoutlaw17.DiffApart': WHATEVER THE INPUT: true; the input reads as it did. -/
def diffApartSpec : ChangeSpec := { name := "diffApart", fn := fun _ => fun
  | [d1, d2, d3] => { results := [.lit (.bool true)], args := [d1, d2, d3] }
  | _ => none }
def diffApartRow : OpenClaim := { program := "ytgkocobnccdocaagreat", sum := "aa1b92153ec5cc484a50593751f09fee6df5437568b294608952789cd3df27ba", func := "downspout/downspoutlaw17.DiffApart", spec := "diffApart", unfollowed := true, recurses := true, apart := false }
def DiffApartSaid : Prop := diffApartRow.holds Tryz.pinned (OpenSpec.ofChange diffApartSpec)

/-- ITS FALSE NEIGHBOUR: 'it returns false'. Refute it at one input. -/
def diffApartWrong : ChangeSpec := { name := "diffApart", fn := fun _ => fun
  | [d1, d2, d3] => { results := [.lit (.bool false)], args := [d1, d2, d3] }
  | _ => none }
def DiffApartWrongFalsely : Prop := diffApartRow.holds Tryz.pinned (OpenSpec.ofChange diffApartWrong)

/-- 'downspoutlaw17.DiffDigests': WHATEVER THE INPUT: true; the input reads as it did. -/
def diffDigestsSpec : ChangeSpec := { name := "diffDigests", fn := fun _ => fun
  | [d1, d2] => { results := [.lit (.bool true)], args := [d1, d2] }
  | _ => none }
def diffDigestsRow : OpenClaim := { program := "ytgkocobnccdocaagreat", sum := "aa1b92153ec5cc484a50593751f09fee6df5437568b294608952789cd3df27ba", func := "downspout/downspoutlaw17.DiffDigests", spec := "diffDigests", unfollowed := true, recurses := true, apart := false }
def DiffDigestsSaid : Prop := diffDigestsRow.holds Tryz.pinned (OpenSpec.ofChange diffDigestsSpec)

/-- ITS FALSE NEIGHBOUR: 'it returns false'. Refute it at one input. -/
def diffDigestsWrong : ChangeSpec := { name := "diffDigests", fn := fun _ => fun
  | [d1, d2] => { results := [.lit (.bool false)], args := [d1, d2] }
  | _ => none }
def DiffDigestsWrongFalsely : Prop := diffDigestsRow.holds Tryz.pinned (OpenSpec.ofChange diffDigestsWrong)

/-- 'downspoutlaw17.DiffParts': WHATEVER THE INPUT: true; the input reads as it did. -/
def diffPartsSpec : ChangeSpec := { name := "diffParts", fn := fun _ => fun
  | [d1, d2, d3] => { results := [.lit (.bool true)], args := [d1, d2, d3] }
  | _ => none }
def diffPartsRow : OpenClaim := { program := "ytgkocobnccdocaagreat", sum := "aa1b92153ec5cc484a50593751f09fee6df5437568b294608952789cd3df27ba", func := "downspout/downspoutlaw17.DiffParts", spec := "diffParts", unfollowed := true, recurses := true, apart := false }
def DiffPartsSaid : Prop := diffPartsRow.holds Tryz.pinned (OpenSpec.ofChange diffPartsSpec)

/-- ITS FALSE NEIGHBOUR: 'it returns false'. Refute it at one input. -/
def diffPartsWrong : ChangeSpec := { name := "diffParts", fn := fun _ => fun
  | [d1, d2, d3] => { results := [.lit (.bool false)], args := [d1, d2, d3] }
  | _ => none }
def DiffPartsWrongFalsely : Prop := diffPartsRow.holds Tryz.pinned (OpenSpec.ofChange diffPartsWrong)

/-- 'downspoutlaw17.DiffTables': WHATEVER THE INPUT: true; the input reads as it did. -/
def diffTablesSpec : ChangeSpec := { name := "diffTables", fn := fun _ => fun
  | [d1, d2] => { results := [.lit (.bool true)], args := [d1, d2] }
  | _ => none }
def diffTablesRow : OpenClaim := { program := "ytgkocobnccdocaagreat", sum := "aa1b92153ec5cc484a50593751f09fee6df5437568b294608952789cd3df27ba", func := "downspout/downspoutlaw17.DiffTables", spec := "diffTables", unfollowed := true, recurses := true, apart := false }
def DiffTablesSaid : Prop := diffTablesRow.holds Tryz.pinned (OpenSpec.ofChange diffTablesSpec)

/-- ITS FALSE NEIGHBOUR: 'it returns false'. Refute it at one input. -/
def diffTablesWrong : ChangeSpec := { name := "diffTables", fn := fun _ => fun
  | [d1, d2] => { results := [.lit (.bool false)], args := [d1, d2] }
  | _ => none }
def DiffTablesWrongFalsely : Prop := diffTablesRow.holds Tryz.pinned (OpenSpec.ofChange diffTablesWrong)

/-- 'downspoutlaw17.DiffDeletes': WHATEVER THE INPUT: true; the input reads as it did. -/
def diffDeletesSpec : ChangeSpec := { name := "diffDeletes", fn := fun _ => fun
  | [d1, d2, d3] => { results := [.lit (.bool true)], args := [d1, d2, d3] }
  | _ => none }
def diffDeletesRow : OpenClaim := { program := "ytgkocobnccdocaagreat", sum := "aa1b92153ec5cc484a50593751f09fee6df5437568b294608952789cd3df27ba", func := "downspout/downspoutlaw17.DiffDeletes", spec := "diffDeletes", unfollowed := true, recurses := true, apart := false }
def DiffDeletesSaid : Prop := diffDeletesRow.holds Tryz.pinned (OpenSpec.ofChange diffDeletesSpec)

/-- ITS FALSE NEIGHBOUR: 'it returns false'. Refute it at one input. -/
def diffDeletesWrong : ChangeSpec := { name := "diffDeletes", fn := fun _ => fun
  | [d1, d2, d3] => { results := [.lit (.bool false)], args := [d1, d2, d3] }
  | _ => none }
def DiffDeletesWrongFalsely : Prop := diffDeletesRow.holds Tryz.pinned (OpenSpec.ofChange diffDeletesWrong)

/-- 'downspoutlaw17.DiffLeads': WHATEVER THE INPUT: true; the input reads as it did. -/
def diffLeadsSpec : ChangeSpec := { name := "diffLeads", fn := fun _ => fun
  | [d1, d2, d3] => { results := [.lit (.bool true)], args := [d1, d2, d3] }
  | _ => none }
def diffLeadsRow : OpenClaim := { program := "ytgkocobnccdocaagreat", sum := "aa1b92153ec5cc484a50593751f09fee6df5437568b294608952789cd3df27ba", func := "downspout/downspoutlaw17.DiffLeads", spec := "diffLeads", unfollowed := true, recurses := true, apart := false }
def DiffLeadsSaid : Prop := diffLeadsRow.holds Tryz.pinned (OpenSpec.ofChange diffLeadsSpec)

/-- ITS FALSE NEIGHBOUR: 'it returns false'. Refute it at one input. -/
def diffLeadsWrong : ChangeSpec := { name := "diffLeads", fn := fun _ => fun
  | [d1, d2, d3] => { results := [.lit (.bool false)], args := [d1, d2, d3] }
  | _ => none }
def DiffLeadsWrongFalsely : Prop := diffLeadsRow.holds Tryz.pinned (OpenSpec.ofChange diffLeadsWrong)

/- THE SECOND FORM. 'bulk': how many values and letters a reading holds, each counted each time it is reached (what is shared counts as often as it is met; a slice's spare places count too). A statement '..UptoSaid' is the law's where the arguments, and the package variables that the reading takes, are together of bulk at most 1048576: NARROWER than '..Said'. Prove '..Said' where nothing that the law and all that it calls make is longer than what came in: it says more and counts as full. Else prove '..UptoSaid'. A law counts once. -/
mutual
def uptoBulk {H : Type} : DataW H → Nat
  | .lit (.string bytes) => bytes.length + 1
  | .lit _ => 1
  | .nil => 1
  | .ptr d => uptoBulk d + 1
  | .slice elems spare => uptoBulkAll elems + uptoBulkAll spare + 1
  | .agg parts => uptoBulkAll parts + 1
  | .iface _ d => uptoBulk d + 1
  | .map entries => uptoBulkEntries entries + 1
  | .held _ => 1
def uptoBulkAll {H : Type} : List (DataW H) → Nat
  | [] => 0
  | d :: r => uptoBulk d + uptoBulkAll r
def uptoBulkEntries {H : Type} : List (Lit × DataW H) → Nat
  | [] => 0
  | x :: r => uptoBulkEntry x + uptoBulkEntries r
def uptoBulkEntry {H : Type} : Lit × DataW H → Nat
  | (.string bytes, d) => bytes.length + uptoBulk d + 1
  | (_, d) => uptoBulk d + 1
 end
def uptoSmall : (H : Type) → List (DataW H) → Bool := fun _ ds => decide (uptoBulkAll ds ≤ 1048576)
def OpenSpec.upto (s : _root_.Go.ChangeSpec) : _root_.Go.OpenSpec := { _root_.Go.OpenSpec.ofChange s with cond := some uptoSmall }

/-- 'downspoutlaw17.DiffMatchesReference', WHERE WHAT IT READS IS OF BULK AT MOST 1048576: true; the input reads as it did. -/
def diffMatchesReferenceUptoRow : OpenClaim := { program := "ytgkocobnccdocaagreat", sum := "aa1b92153ec5cc484a50593751f09fee6df5437568b294608952789cd3df27ba", func := "downspout/downspoutlaw17.DiffMatchesReference", spec := "diffMatchesReference", unfollowed := true, recurses := true, apart := false, narrowed := true }
def DiffMatchesReferenceUptoSaid : Prop := diffMatchesReferenceUptoRow.holds Tryz.pinned (OpenSpec.upto diffMatchesReferenceSpec)

/-- 'downspoutlaw17.DiffCommon', WHERE WHAT IT READS IS OF BULK AT MOST 1048576: true; the input reads as it did. -/
def diffCommonUptoRow : OpenClaim := { program := "ytgkocobnccdocaagreat", sum := "aa1b92153ec5cc484a50593751f09fee6df5437568b294608952789cd3df27ba", func := "downspout/downspoutlaw17.DiffCommon", spec := "diffCommon", unfollowed := true, recurses := true, apart := false, narrowed := true }
def DiffCommonUptoSaid : Prop := diffCommonUptoRow.holds Tryz.pinned (OpenSpec.upto diffCommonSpec)

/-- 'downspoutlaw17.DiffApart', WHERE WHAT IT READS IS OF BULK AT MOST 1048576: true; the input reads as it did. -/
def diffApartUptoRow : OpenClaim := { program := "ytgkocobnccdocaagreat", sum := "aa1b92153ec5cc484a50593751f09fee6df5437568b294608952789cd3df27ba", func := "downspout/downspoutlaw17.DiffApart", spec := "diffApart", unfollowed := true, recurses := true, apart := false, narrowed := true }
def DiffApartUptoSaid : Prop := diffApartUptoRow.holds Tryz.pinned (OpenSpec.upto diffApartSpec)

/-- 'downspoutlaw17.DiffDigests', WHERE WHAT IT READS IS OF BULK AT MOST 1048576: true; the input reads as it did. -/
def diffDigestsUptoRow : OpenClaim := { program := "ytgkocobnccdocaagreat", sum := "aa1b92153ec5cc484a50593751f09fee6df5437568b294608952789cd3df27ba", func := "downspout/downspoutlaw17.DiffDigests", spec := "diffDigests", unfollowed := true, recurses := true, apart := false, narrowed := true }
def DiffDigestsUptoSaid : Prop := diffDigestsUptoRow.holds Tryz.pinned (OpenSpec.upto diffDigestsSpec)

/-- 'downspoutlaw17.DiffParts', WHERE WHAT IT READS IS OF BULK AT MOST 1048576: true; the input reads as it did. -/
def diffPartsUptoRow : OpenClaim := { program := "ytgkocobnccdocaagreat", sum := "aa1b92153ec5cc484a50593751f09fee6df5437568b294608952789cd3df27ba", func := "downspout/downspoutlaw17.DiffParts", spec := "diffParts", unfollowed := true, recurses := true, apart := false, narrowed := true }
def DiffPartsUptoSaid : Prop := diffPartsUptoRow.holds Tryz.pinned (OpenSpec.upto diffPartsSpec)

/-- 'downspoutlaw17.DiffTables', WHERE WHAT IT READS IS OF BULK AT MOST 1048576: true; the input reads as it did. -/
def diffTablesUptoRow : OpenClaim := { program := "ytgkocobnccdocaagreat", sum := "aa1b92153ec5cc484a50593751f09fee6df5437568b294608952789cd3df27ba", func := "downspout/downspoutlaw17.DiffTables", spec := "diffTables", unfollowed := true, recurses := true, apart := false, narrowed := true }
def DiffTablesUptoSaid : Prop := diffTablesUptoRow.holds Tryz.pinned (OpenSpec.upto diffTablesSpec)

/-- 'downspoutlaw17.DiffDeletes', WHERE WHAT IT READS IS OF BULK AT MOST 1048576: true; the input reads as it did. -/
def diffDeletesUptoRow : OpenClaim := { program := "ytgkocobnccdocaagreat", sum := "aa1b92153ec5cc484a50593751f09fee6df5437568b294608952789cd3df27ba", func := "downspout/downspoutlaw17.DiffDeletes", spec := "diffDeletes", unfollowed := true, recurses := true, apart := false, narrowed := true }
def DiffDeletesUptoSaid : Prop := diffDeletesUptoRow.holds Tryz.pinned (OpenSpec.upto diffDeletesSpec)

/-- 'downspoutlaw17.DiffLeads', WHERE WHAT IT READS IS OF BULK AT MOST 1048576: true; the input reads as it did. -/
def diffLeadsUptoRow : OpenClaim := { program := "ytgkocobnccdocaagreat", sum := "aa1b92153ec5cc484a50593751f09fee6df5437568b294608952789cd3df27ba", func := "downspout/downspoutlaw17.DiffLeads", spec := "diffLeads", unfollowed := true, recurses := true, apart := false, narrowed := true }
def DiffLeadsUptoSaid : Prop := diffLeadsUptoRow.holds Tryz.pinned (OpenSpec.upto diffLeadsSpec)

end Rows
end Go.Proofs.YtgkocobnccdocaaGreat
