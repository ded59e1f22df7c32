/-
  No cell of these rows narrows 'for every input' (looked for: loops, veiled, ifaces, maps, wideKeys, modest, calm, conditions, laid).
  DERIVED. THE GIVEN ROWS OF THIS SEAT. 7 by the template 'for every input the law returns true; each argument reads behind the call as it read before'; 0 by the template 'total and deterministic' (their statements: YtjjkeakejclknaaTotals.lean).
  GIVEN WITH THE SEED: the statements are not yours to turn. If you find one false, say at which input.
  Laid BY PROGRAM, IN A SANDBOX (cutbox-rows.mjs): the forced cells as the released guide's own fill.sh prints them over the translation 9c3b0168fa5e1ef4… (all of the seat's roots in one cut). By AI agents, Wed Nov 11 2026. No macro, syntax, notation, axiom, sorry.
-/
import Derived.Test.YtjjkeakejclknaaChecked
import GoSem.Claim
import GoSem.ClaimJoined
import GoSem.ClaimMapViews
import Derived.JoinedTies
import Derived.KernelRfl
namespace Go.Proofs.Ytjjkeakejclknaa
/- THE CELL 'sum', in the pinned program and in every row, IS THE sha256 OF THE DUMP (.gsa) THAT YtjjkeakejclknaaProg.lean LOADS. Nothing in Lean hashes anything: it is a label: what it is worth is what the hold of that sum in a sandbox is worth. -/
noncomputable def Try.pinned : Pinned := { name := "ytjjkeakejclknaa", sum := "9c3b0168fa5e1ef42d435067146a6059c55041afc115a560c1cb9cc50c7a64f0", checked := Try.checked }
namespace Rows
def none {H : Type} : Left H := { results := [], args := [] }

/-- 'downspoutlaw04.TableMatchesReference': WHATEVER THE INPUT: true; the input reads as it did. -/
def tableMatchesReferenceSpec : ChangeSpec := { name := "tableMatchesReference", fn := fun _ => fun
  | [d1, d2, d3] => { results := [.lit (.bool true)], args := [d1, d2, d3] }
  | _ => none }
def tableMatchesReferenceRow : OpenClaim := { program := "ytjjkeakejclknaa", sum := "9c3b0168fa5e1ef42d435067146a6059c55041afc115a560c1cb9cc50c7a64f0", func := "downspout/downspoutlaw04.TableMatchesReference", spec := "tableMatchesReference", inPlace := ["internal/bytealg.abigen_runtime_cmpstring", "slices.overlaps[downspout/api.Pair]"], unfollowed := true, recurses := true, apart := false }
def TableMatchesReferenceSaid : Prop := tableMatchesReferenceRow.holds Try.pinned (OpenSpec.ofChange tableMatchesReferenceSpec)

/-- ITS FALSE NEIGHBOUR: 'it returns false'. Refute it at one input. -/
def tableMatchesReferenceWrong : ChangeSpec := { name := "tableMatchesReference", fn := fun _ => fun
  | [d1, d2, d3] => { results := [.lit (.bool false)], args := [d1, d2, d3] }
  | _ => none }
def TableMatchesReferenceWrongFalsely : Prop := tableMatchesReferenceRow.holds Try.pinned (OpenSpec.ofChange tableMatchesReferenceWrong)

/-- 'downspoutlaw04.TableValid': WHATEVER THE INPUT: true; the input reads as it did. -/
def tableValidSpec : ChangeSpec := { name := "tableValid", fn := fun _ => fun
  | [d1, d2, d3] => { results := [.lit (.bool true)], args := [d1, d2, d3] }
  | _ => none }
def tableValidRow : OpenClaim := { program := "ytjjkeakejclknaa", sum := "9c3b0168fa5e1ef42d435067146a6059c55041afc115a560c1cb9cc50c7a64f0", func := "downspout/downspoutlaw04.TableValid", spec := "tableValid", inPlace := ["internal/bytealg.abigen_runtime_cmpstring", "slices.overlaps[downspout/api.Pair]"], unfollowed := true, recurses := true, apart := false }
def TableValidSaid : Prop := tableValidRow.holds Try.pinned (OpenSpec.ofChange tableValidSpec)

/-- ITS FALSE NEIGHBOUR: 'it returns false'. Refute it at one input. -/
def tableValidWrong : ChangeSpec := { name := "tableValid", fn := fun _ => fun
  | [d1, d2, d3] => { results := [.lit (.bool false)], args := [d1, d2, d3] }
  | _ => none }
def TableValidWrongFalsely : Prop := tableValidRow.holds Try.pinned (OpenSpec.ofChange tableValidWrong)

/-- 'downspoutlaw04.TableFinds': WHATEVER THE INPUT: true; the input reads as it did. -/
def tableFindsSpec : ChangeSpec := { name := "tableFinds", fn := fun _ => fun
  | [d1, d2, d3] => { results := [.lit (.bool true)], args := [d1, d2, d3] }
  | _ => none }
def tableFindsRow : OpenClaim := { program := "ytjjkeakejclknaa", sum := "9c3b0168fa5e1ef42d435067146a6059c55041afc115a560c1cb9cc50c7a64f0", func := "downspout/downspoutlaw04.TableFinds", spec := "tableFinds", inPlace := ["internal/bytealg.abigen_runtime_cmpstring", "slices.overlaps[downspout/api.Pair]"], unfollowed := true, recurses := true, apart := false }
def TableFindsSaid : Prop := tableFindsRow.holds Try.pinned (OpenSpec.ofChange tableFindsSpec)

/-- ITS FALSE NEIGHBOUR: 'it returns false'. Refute it at one input. -/
def tableFindsWrong : ChangeSpec := { name := "tableFinds", fn := fun _ => fun
  | [d1, d2, d3] => { results := [.lit (.bool false)], args := [d1, d2, d3] }
  | _ => none }
def TableFindsWrongFalsely : Prop := tableFindsRow.holds Try.pinned (OpenSpec.ofChange tableFindsWrong)

/-- 'downspoutlaw04.TableOrders': WHATEVER THE INPUT: true; the input reads as it did. -/
def tableOrdersSpec : ChangeSpec := { name := "tableOrders", fn := fun _ => fun
  | [d1, d2, d3] => { results := [.lit (.bool true)], args := [d1, d2, d3] }
  | _ => none }
def tableOrdersRow : OpenClaim := { program := "ytjjkeakejclknaa", sum := "9c3b0168fa5e1ef42d435067146a6059c55041afc115a560c1cb9cc50c7a64f0", func := "downspout/downspoutlaw04.TableOrders", spec := "tableOrders", inPlace := ["internal/bytealg.abigen_runtime_cmpstring", "slices.overlaps[downspout/api.Pair]"], unfollowed := true, recurses := true, apart := false }
def TableOrdersSaid : Prop := tableOrdersRow.holds Try.pinned (OpenSpec.ofChange tableOrdersSpec)

/-- ITS FALSE NEIGHBOUR: 'it returns false'. Refute it at one input. -/
def tableOrdersWrong : ChangeSpec := { name := "tableOrders", fn := fun _ => fun
  | [d1, d2, d3] => { results := [.lit (.bool false)], args := [d1, d2, d3] }
  | _ => none }
def TableOrdersWrongFalsely : Prop := tableOrdersRow.holds Try.pinned (OpenSpec.ofChange tableOrdersWrong)

/-- 'downspoutlaw04.TableSpans': WHATEVER THE INPUT: true; the input reads as it did. -/
def tableSpansSpec : ChangeSpec := { name := "tableSpans", fn := fun _ => fun
  | [d1, d2, d3] => { results := [.lit (.bool true)], args := [d1, d2, d3] }
  | _ => none }
def tableSpansRow : OpenClaim := { program := "ytjjkeakejclknaa", sum := "9c3b0168fa5e1ef42d435067146a6059c55041afc115a560c1cb9cc50c7a64f0", func := "downspout/downspoutlaw04.TableSpans", spec := "tableSpans", inPlace := ["internal/bytealg.abigen_runtime_cmpstring", "slices.overlaps[downspout/api.Pair]"], unfollowed := true, recurses := true, apart := false }
def TableSpansSaid : Prop := tableSpansRow.holds Try.pinned (OpenSpec.ofChange tableSpansSpec)

/-- ITS FALSE NEIGHBOUR: 'it returns false'. Refute it at one input. -/
def tableSpansWrong : ChangeSpec := { name := "tableSpans", fn := fun _ => fun
  | [d1, d2, d3] => { results := [.lit (.bool false)], args := [d1, d2, d3] }
  | _ => none }
def TableSpansWrongFalsely : Prop := tableSpansRow.holds Try.pinned (OpenSpec.ofChange tableSpansWrong)

/-- 'downspoutlaw04.TableUnions': WHATEVER THE INPUT: true; the input reads as it did. -/
def tableUnionsSpec : ChangeSpec := { name := "tableUnions", fn := fun _ => fun
  | [d] => { results := [.lit (.bool true)], args := [d] }
  | _ => none }
def tableUnionsRow : OpenClaim := { program := "ytjjkeakejclknaa", sum := "9c3b0168fa5e1ef42d435067146a6059c55041afc115a560c1cb9cc50c7a64f0", func := "downspout/downspoutlaw04.TableUnions", spec := "tableUnions", inPlace := ["internal/bytealg.abigen_runtime_cmpstring", "slices.overlaps[downspout/api.Pair]"], unfollowed := true, recurses := true, apart := false }
def TableUnionsSaid : Prop := tableUnionsRow.holds Try.pinned (OpenSpec.ofChange tableUnionsSpec)

/-- ITS FALSE NEIGHBOUR: 'it returns false'. Refute it at one input. -/
def tableUnionsWrong : ChangeSpec := { name := "tableUnions", fn := fun _ => fun
  | [d] => { results := [.lit (.bool false)], args := [d] }
  | _ => none }
def TableUnionsWrongFalsely : Prop := tableUnionsRow.holds Try.pinned (OpenSpec.ofChange tableUnionsWrong)

/-- 'downspoutlaw04.TableMoves': WHATEVER THE INPUT: true; the input reads as it did. -/
def tableMovesSpec : ChangeSpec := { name := "tableMoves", fn := fun _ => fun
  | [d1, d2, d3] => { results := [.lit (.bool true)], args := [d1, d2, d3] }
  | _ => none }
def tableMovesRow : OpenClaim := { program := "ytjjkeakejclknaa", sum := "9c3b0168fa5e1ef42d435067146a6059c55041afc115a560c1cb9cc50c7a64f0", func := "downspout/downspoutlaw04.TableMoves", spec := "tableMoves", inPlace := ["internal/bytealg.abigen_runtime_cmpstring", "slices.overlaps[downspout/api.Pair]"], unfollowed := true, recurses := true, apart := false }
def TableMovesSaid : Prop := tableMovesRow.holds Try.pinned (OpenSpec.ofChange tableMovesSpec)

/-- ITS FALSE NEIGHBOUR: 'it returns false'. Refute it at one input. -/
def tableMovesWrong : ChangeSpec := { name := "tableMoves", fn := fun _ => fun
  | [d1, d2, d3] => { results := [.lit (.bool false)], args := [d1, d2, d3] }
  | _ => none }
def TableMovesWrongFalsely : Prop := tableMovesRow.holds Try.pinned (OpenSpec.ofChange tableMovesWrong)

/- THE SECOND FORM. 'bulk': how many values and letters a reading holds, each counted each time it is reached (what is shared counts as often as it is met; a slice's spare places count too). A statement '..UptoSaid' is the law's where the arguments, and the package variables that the reading takes, are together of bulk at most 1048576: NARROWER than '..Said'. Prove '..Said' where nothing that the law and all that it calls make is longer than what came in: it says more and counts as full. Else prove '..UptoSaid'. A law counts once. -/
mutual
def uptoBulk {H : Type} : DataW H → Nat
  | .lit (.string bytes) => bytes.length + 1
  | .lit _ => 1
  | .nil => 1
  | .ptr d => uptoBulk d + 1
  | .slice elems spare => uptoBulkAll elems + uptoBulkAll spare + 1
  | .agg parts => uptoBulkAll parts + 1
  | .iface _ d => uptoBulk d + 1
  | .map entries => uptoBulkEntries entries + 1
  | .held _ => 1
def uptoBulkAll {H : Type} : List (DataW H) → Nat
  | [] => 0
  | d :: r => uptoBulk d + uptoBulkAll r
def uptoBulkEntries {H : Type} : List (Lit × DataW H) → Nat
  | [] => 0
  | x :: r => uptoBulkEntry x + uptoBulkEntries r
def uptoBulkEntry {H : Type} : Lit × DataW H → Nat
  | (.string bytes, d) => bytes.length + uptoBulk d + 1
  | (_, d) => uptoBulk d + 1
 end
def uptoSmall : (H : Type) → List (DataW H) → Bool := fun _ ds => decide (uptoBulkAll ds ≤ 1048576)
def OpenSpec.upto (s : _root_.Go.ChangeSpec) : _root_.Go.OpenSpec := { _root_.Go.OpenSpec.ofChange s with cond := some uptoSmall }

/-- 'downspoutlaw04.TableMatchesReference', WHERE WHAT IT READS IS OF BULK AT MOST 1048576: true; the input reads as it did. -/
def tableMatchesReferenceUptoRow : OpenClaim := { program := "ytjjkeakejclknaa", sum := "9c3b0168fa5e1ef42d435067146a6059c55041afc115a560c1cb9cc50c7a64f0", func := "downspout/downspoutlaw04.TableMatchesReference", spec := "tableMatchesReference", inPlace := ["internal/bytealg.abigen_runtime_cmpstring", "slices.overlaps[downspout/api.Pair]"], unfollowed := true, recurses := true, apart := false, narrowed := true }
def TableMatchesReferenceUptoSaid : Prop := tableMatchesReferenceUptoRow.holds Try.pinned (OpenSpec.upto tableMatchesReferenceSpec)

/-- 'downspoutlaw04.TableValid', WHERE WHAT IT READS IS OF BULK AT MOST 1048576: true; the input reads as it did. -/
def tableValidUptoRow : OpenClaim := { program := "ytjjkeakejclknaa", sum := "9c3b0168fa5e1ef42d435067146a6059c55041afc115a560c1cb9cc50c7a64f0", func := "downspout/downspoutlaw04.TableValid", spec := "tableValid", inPlace := ["internal/bytealg.abigen_runtime_cmpstring", "slices.overlaps[downspout/api.Pair]"], unfollowed := true, recurses := true, apart := false, narrowed := true }
def TableValidUptoSaid : Prop := tableValidUptoRow.holds Try.pinned (OpenSpec.upto tableValidSpec)

/-- 'downspoutlaw04.TableFinds', WHERE WHAT IT READS IS OF BULK AT MOST 1048576: true; the input reads as it did. -/
def tableFindsUptoRow : OpenClaim := { program := "ytjjkeakejclknaa", sum := "9c3b0168fa5e1ef42d435067146a6059c55041afc115a560c1cb9cc50c7a64f0", func := "downspout/downspoutlaw04.TableFinds", spec := "tableFinds", inPlace := ["internal/bytealg.abigen_runtime_cmpstring", "slices.overlaps[downspout/api.Pair]"], unfollowed := true, recurses := true, apart := false, narrowed := true }
def TableFindsUptoSaid : Prop := tableFindsUptoRow.holds Try.pinned (OpenSpec.upto tableFindsSpec)

/-- 'downspoutlaw04.TableOrders', WHERE WHAT IT READS IS OF BULK AT MOST 1048576: true; the input reads as it did. -/
def tableOrdersUptoRow : OpenClaim := { program := "ytjjkeakejclknaa", sum := "9c3b0168fa5e1ef42d435067146a6059c55041afc115a560c1cb9cc50c7a64f0", func := "downspout/downspoutlaw04.TableOrders", spec := "tableOrders", inPlace := ["internal/bytealg.abigen_runtime_cmpstring", "slices.overlaps[downspout/api.Pair]"], unfollowed := true, recurses := true, apart := false, narrowed := true }
def TableOrdersUptoSaid : Prop := tableOrdersUptoRow.holds Try.pinned (OpenSpec.upto tableOrdersSpec)

/-- 'downspoutlaw04.TableSpans', WHERE WHAT IT READS IS OF BULK AT MOST 1048576: true; the input reads as it did. -/
def tableSpansUptoRow : OpenClaim := { program := "ytjjkeakejclknaa", sum := "9c3b0168fa5e1ef42d435067146a6059c55041afc115a560c1cb9cc50c7a64f0", func := "downspout/downspoutlaw04.TableSpans", spec := "tableSpans", inPlace := ["internal/bytealg.abigen_runtime_cmpstring", "slices.overlaps[downspout/api.Pair]"], unfollowed := true, recurses := true, apart := false, narrowed := true }
def TableSpansUptoSaid : Prop := tableSpansUptoRow.holds Try.pinned (OpenSpec.upto tableSpansSpec)

/-- 'downspoutlaw04.TableUnions', WHERE WHAT IT READS IS OF BULK AT MOST 1048576: true; the input reads as it did. -/
def tableUnionsUptoRow : OpenClaim := { program := "ytjjkeakejclknaa", sum := "9c3b0168fa5e1ef42d435067146a6059c55041afc115a560c1cb9cc50c7a64f0", func := "downspout/downspoutlaw04.TableUnions", spec := "tableUnions", inPlace := ["internal/bytealg.abigen_runtime_cmpstring", "slices.overlaps[downspout/api.Pair]"], unfollowed := true, recurses := true, apart := false, narrowed := true }
def TableUnionsUptoSaid : Prop := tableUnionsUptoRow.holds Try.pinned (OpenSpec.upto tableUnionsSpec)

/-- 'downspoutlaw04.TableMoves', WHERE WHAT IT READS IS OF BULK AT MOST 1048576: true; the input reads as it did. -/
def tableMovesUptoRow : OpenClaim := { program := "ytjjkeakejclknaa", sum := "9c3b0168fa5e1ef42d435067146a6059c55041afc115a560c1cb9cc50c7a64f0", func := "downspout/downspoutlaw04.TableMoves", spec := "tableMoves", inPlace := ["internal/bytealg.abigen_runtime_cmpstring", "slices.overlaps[downspout/api.Pair]"], unfollowed := true, recurses := true, apart := false, narrowed := true }
def TableMovesUptoSaid : Prop := tableMovesUptoRow.holds Try.pinned (OpenSpec.upto tableMovesSpec)

end Rows
end Go.Proofs.Ytjjkeakejclknaa
