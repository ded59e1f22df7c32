/-
  No cell of these rows narrows 'for every input' (looked for: loops, veiled, ifaces, maps, wideKeys, modest, calm, conditions, laid).
  DERIVED. THE GIVEN ROWS OF THIS SEAT. 8 by the template 'for every input the law returns true; each argument reads behind the call as it read before'; 0 by the template 'total and deterministic' (their statements: YtloajdobgadplaaTotals.lean).
  GIVEN WITH THE SEED: the statements are not yours to turn. If you find one false, say at which input.
  Laid BY PROGRAM, IN A SANDBOX (cutbox-rows.mjs): the forced cells as the released guide's own fill.sh prints them over the translation 52d3b8e29942b988… (all of the seat's roots in one cut). By AI agents, Wed Nov 11 2026. No macro, syntax, notation, axiom, sorry.
-/
import Derived.Test.YtloajdobgadplaaChecked
import GoSem.Claim
import GoSem.ClaimJoined
import GoSem.ClaimMapViews
import Derived.JoinedTies
import Derived.KernelRfl
namespace Go.Proofs.Ytloajdobgadplaa
/- THE CELL 'sum', in the pinned program and in every row, IS THE sha256 OF THE DUMP (.gsa) THAT YtloajdobgadplaaProg.lean LOADS. Nothing in Lean hashes anything: it is a label: what it is worth is what the hold of that sum in a sandbox is worth. -/
noncomputable def Try.pinned : Pinned := { name := "ytloajdobgadplaa", sum := "52d3b8e29942b98804040129b68148df365ef2e5ddebb06680adb565662f7d5f", checked := Try.checked }
namespace Rows
def none {H : Type} : Left H := { results := [], args := [] }

/-- 'downspoutlaw02.SpanMatchesReference': WHATEVER THE INPUT: true; the input reads as it did. -/
def spanMatchesReferenceSpec : ChangeSpec := { name := "spanMatchesReference", fn := fun _ => fun
  | [d1, d2, d3] => { results := [.lit (.bool true)], args := [d1, d2, d3] }
  | _ => none }
def spanMatchesReferenceRow : OpenClaim := { program := "ytloajdobgadplaa", sum := "52d3b8e29942b98804040129b68148df365ef2e5ddebb06680adb565662f7d5f", func := "downspout/downspoutlaw02.SpanMatchesReference", spec := "spanMatchesReference", unfollowed := true, recurses := true, apart := false }
def SpanMatchesReferenceSaid : Prop := spanMatchesReferenceRow.holds Try.pinned (OpenSpec.ofChange spanMatchesReferenceSpec)

/-- ITS FALSE NEIGHBOUR: 'it returns false'. Refute it at one input. -/
def spanMatchesReferenceWrong : ChangeSpec := { name := "spanMatchesReference", fn := fun _ => fun
  | [d1, d2, d3] => { results := [.lit (.bool false)], args := [d1, d2, d3] }
  | _ => none }
def SpanMatchesReferenceWrongFalsely : Prop := spanMatchesReferenceRow.holds Try.pinned (OpenSpec.ofChange spanMatchesReferenceWrong)

/-- 'downspoutlaw02.SpanPrefixes': WHATEVER THE INPUT: true; the input reads as it did. -/
def spanPrefixesSpec : ChangeSpec := { name := "spanPrefixes", fn := fun _ => fun
  | [d1, d2] => { results := [.lit (.bool true)], args := [d1, d2] }
  | _ => none }
def spanPrefixesRow : OpenClaim := { program := "ytloajdobgadplaa", sum := "52d3b8e29942b98804040129b68148df365ef2e5ddebb06680adb565662f7d5f", func := "downspout/downspoutlaw02.SpanPrefixes", spec := "spanPrefixes", unfollowed := true, recurses := true, apart := false }
def SpanPrefixesSaid : Prop := spanPrefixesRow.holds Try.pinned (OpenSpec.ofChange spanPrefixesSpec)

/-- ITS FALSE NEIGHBOUR: 'it returns false'. Refute it at one input. -/
def spanPrefixesWrong : ChangeSpec := { name := "spanPrefixes", fn := fun _ => fun
  | [d1, d2] => { results := [.lit (.bool false)], args := [d1, d2] }
  | _ => none }
def SpanPrefixesWrongFalsely : Prop := spanPrefixesRow.holds Try.pinned (OpenSpec.ofChange spanPrefixesWrong)

/-- 'downspoutlaw02.SpanMeets': WHATEVER THE INPUT: true; the input reads as it did. -/
def spanMeetsSpec : ChangeSpec := { name := "spanMeets", fn := fun _ => fun
  | [d1, d2] => { results := [.lit (.bool true)], args := [d1, d2] }
  | _ => none }
def spanMeetsRow : OpenClaim := { program := "ytloajdobgadplaa", sum := "52d3b8e29942b98804040129b68148df365ef2e5ddebb06680adb565662f7d5f", func := "downspout/downspoutlaw02.SpanMeets", spec := "spanMeets", unfollowed := true, recurses := true, apart := false }
def SpanMeetsSaid : Prop := spanMeetsRow.holds Try.pinned (OpenSpec.ofChange spanMeetsSpec)

/-- ITS FALSE NEIGHBOUR: 'it returns false'. Refute it at one input. -/
def spanMeetsWrong : ChangeSpec := { name := "spanMeets", fn := fun _ => fun
  | [d1, d2] => { results := [.lit (.bool false)], args := [d1, d2] }
  | _ => none }
def SpanMeetsWrongFalsely : Prop := spanMeetsRow.holds Try.pinned (OpenSpec.ofChange spanMeetsWrong)

/-- 'downspoutlaw02.SpanCovers': WHATEVER THE INPUT: true; the input reads as it did. -/
def spanCoversSpec : ChangeSpec := { name := "spanCovers", fn := fun _ => fun
  | [d1, d2] => { results := [.lit (.bool true)], args := [d1, d2] }
  | _ => none }
def spanCoversRow : OpenClaim := { program := "ytloajdobgadplaa", sum := "52d3b8e29942b98804040129b68148df365ef2e5ddebb06680adb565662f7d5f", func := "downspout/downspoutlaw02.SpanCovers", spec := "spanCovers", unfollowed := true, recurses := true, apart := false }
def SpanCoversSaid : Prop := spanCoversRow.holds Try.pinned (OpenSpec.ofChange spanCoversSpec)

/-- ITS FALSE NEIGHBOUR: 'it returns false'. Refute it at one input. -/
def spanCoversWrong : ChangeSpec := { name := "spanCovers", fn := fun _ => fun
  | [d1, d2] => { results := [.lit (.bool false)], args := [d1, d2] }
  | _ => none }
def SpanCoversWrongFalsely : Prop := spanCoversRow.holds Try.pinned (OpenSpec.ofChange spanCoversWrong)

/-- 'downspoutlaw02.SpanNorm': WHATEVER THE INPUT: true; the input reads as it did. -/
def spanNormSpec : ChangeSpec := { name := "spanNorm", fn := fun _ => fun
  | [d1, d2] => { results := [.lit (.bool true)], args := [d1, d2] }
  | _ => none }
def spanNormRow : OpenClaim := { program := "ytloajdobgadplaa", sum := "52d3b8e29942b98804040129b68148df365ef2e5ddebb06680adb565662f7d5f", func := "downspout/downspoutlaw02.SpanNorm", spec := "spanNorm", unfollowed := true, recurses := true, apart := false }
def SpanNormSaid : Prop := spanNormRow.holds Try.pinned (OpenSpec.ofChange spanNormSpec)

/-- ITS FALSE NEIGHBOUR: 'it returns false'. Refute it at one input. -/
def spanNormWrong : ChangeSpec := { name := "spanNorm", fn := fun _ => fun
  | [d1, d2] => { results := [.lit (.bool false)], args := [d1, d2] }
  | _ => none }
def SpanNormWrongFalsely : Prop := spanNormRow.holds Try.pinned (OpenSpec.ofChange spanNormWrong)

/-- 'downspoutlaw02.SpanMinus': WHATEVER THE INPUT: true; the input reads as it did. -/
def spanMinusSpec : ChangeSpec := { name := "spanMinus", fn := fun _ => fun
  | [d1, d2] => { results := [.lit (.bool true)], args := [d1, d2] }
  | _ => none }
def spanMinusRow : OpenClaim := { program := "ytloajdobgadplaa", sum := "52d3b8e29942b98804040129b68148df365ef2e5ddebb06680adb565662f7d5f", func := "downspout/downspoutlaw02.SpanMinus", spec := "spanMinus", unfollowed := true, recurses := true, apart := false }
def SpanMinusSaid : Prop := spanMinusRow.holds Try.pinned (OpenSpec.ofChange spanMinusSpec)

/-- ITS FALSE NEIGHBOUR: 'it returns false'. Refute it at one input. -/
def spanMinusWrong : ChangeSpec := { name := "spanMinus", fn := fun _ => fun
  | [d1, d2] => { results := [.lit (.bool false)], args := [d1, d2] }
  | _ => none }
def SpanMinusWrongFalsely : Prop := spanMinusRow.holds Try.pinned (OpenSpec.ofChange spanMinusWrong)

/-- 'downspoutlaw02.SpanParts': WHATEVER THE INPUT: true; the input reads as it did. -/
def spanPartsSpec : ChangeSpec := { name := "spanParts", fn := fun _ => fun
  | [d1, d2] => { results := [.lit (.bool true)], args := [d1, d2] }
  | _ => none }
def spanPartsRow : OpenClaim := { program := "ytloajdobgadplaa", sum := "52d3b8e29942b98804040129b68148df365ef2e5ddebb06680adb565662f7d5f", func := "downspout/downspoutlaw02.SpanParts", spec := "spanParts", unfollowed := true, recurses := true, apart := false }
def SpanPartsSaid : Prop := spanPartsRow.holds Try.pinned (OpenSpec.ofChange spanPartsSpec)

/-- ITS FALSE NEIGHBOUR: 'it returns false'. Refute it at one input. -/
def spanPartsWrong : ChangeSpec := { name := "spanParts", fn := fun _ => fun
  | [d1, d2] => { results := [.lit (.bool false)], args := [d1, d2] }
  | _ => none }
def SpanPartsWrongFalsely : Prop := spanPartsRow.holds Try.pinned (OpenSpec.ofChange spanPartsWrong)

/-- 'downspoutlaw02.SpanMoves': WHATEVER THE INPUT: true; the input reads as it did. -/
def spanMovesSpec : ChangeSpec := { name := "spanMoves", fn := fun _ => fun
  | [d1, d2, d3] => { results := [.lit (.bool true)], args := [d1, d2, d3] }
  | _ => none }
def spanMovesRow : OpenClaim := { program := "ytloajdobgadplaa", sum := "52d3b8e29942b98804040129b68148df365ef2e5ddebb06680adb565662f7d5f", func := "downspout/downspoutlaw02.SpanMoves", spec := "spanMoves", unfollowed := true, recurses := true, apart := false }
def SpanMovesSaid : Prop := spanMovesRow.holds Try.pinned (OpenSpec.ofChange spanMovesSpec)

/-- ITS FALSE NEIGHBOUR: 'it returns false'. Refute it at one input. -/
def spanMovesWrong : ChangeSpec := { name := "spanMoves", fn := fun _ => fun
  | [d1, d2, d3] => { results := [.lit (.bool false)], args := [d1, d2, d3] }
  | _ => none }
def SpanMovesWrongFalsely : Prop := spanMovesRow.holds Try.pinned (OpenSpec.ofChange spanMovesWrong)

/- THE SECOND FORM. 'bulk': how many values and letters a reading holds, each counted each time it is reached (what is shared counts as often as it is met; a slice's spare places count too). A statement '..UptoSaid' is the law's where the arguments, and the package variables that the reading takes, are together of bulk at most 1048576: NARROWER than '..Said'. Prove '..Said' where nothing that the law and all that it calls make is longer than what came in: it says more and counts as full. Else prove '..UptoSaid'. A law counts once. -/
mutual
def uptoBulk {H : Type} : DataW H → Nat
  | .lit (.string bytes) => bytes.length + 1
  | .lit _ => 1
  | .nil => 1
  | .ptr d => uptoBulk d + 1
  | .slice elems spare => uptoBulkAll elems + uptoBulkAll spare + 1
  | .agg parts => uptoBulkAll parts + 1
  | .iface _ d => uptoBulk d + 1
  | .map entries => uptoBulkEntries entries + 1
  | .held _ => 1
def uptoBulkAll {H : Type} : List (DataW H) → Nat
  | [] => 0
  | d :: r => uptoBulk d + uptoBulkAll r
def uptoBulkEntries {H : Type} : List (Lit × DataW H) → Nat
  | [] => 0
  | x :: r => uptoBulkEntry x + uptoBulkEntries r
def uptoBulkEntry {H : Type} : Lit × DataW H → Nat
  | (.string bytes, d) => bytes.length + uptoBulk d + 1
  | (_, d) => uptoBulk d + 1
 end
def uptoSmall : (H : Type) → List (DataW H) → Bool := fun _ ds => decide (uptoBulkAll ds ≤ 1048576)
def OpenSpec.upto (s : _root_.Go.ChangeSpec) : _root_.Go.OpenSpec := { _root_.Go.OpenSpec.ofChange s with cond := some uptoSmall }

/-- 'downspoutlaw02.SpanMatchesReference', WHERE WHAT IT READS IS OF BULK AT MOST 1048576: true; the input reads as it did. -/
def spanMatchesReferenceUptoRow : OpenClaim := { program := "ytloajdobgadplaa", sum := "52d3b8e29942b98804040129b68148df365ef2e5ddebb06680adb565662f7d5f", func := "downspout/downspoutlaw02.SpanMatchesReference", spec := "spanMatchesReference", unfollowed := true, recurses := true, apart := false, narrowed := true }
def SpanMatchesReferenceUptoSaid : Prop := spanMatchesReferenceUptoRow.holds Try.pinned (OpenSpec.upto spanMatchesReferenceSpec)

/-- 'downspoutlaw02.SpanPrefixes', WHERE WHAT IT READS IS OF BULK AT MOST 1048576: true; the input reads as it did. -/
def spanPrefixesUptoRow : OpenClaim := { program := "ytloajdobgadplaa", sum := "52d3b8e29942b98804040129b68148df365ef2e5ddebb06680adb565662f7d5f", func := "downspout/downspoutlaw02.SpanPrefixes", spec := "spanPrefixes", unfollowed := true, recurses := true, apart := false, narrowed := true }
def SpanPrefixesUptoSaid : Prop := spanPrefixesUptoRow.holds Try.pinned (OpenSpec.upto spanPrefixesSpec)

/-- 'downspoutlaw02.SpanMeets', WHERE WHAT IT READS IS OF BULK AT MOST 1048576: true; the input reads as it did. -/
def spanMeetsUptoRow : OpenClaim := { program := "ytloajdobgadplaa", sum := "52d3b8e29942b98804040129b68148df365ef2e5ddebb06680adb565662f7d5f", func := "downspout/downspoutlaw02.SpanMeets", spec := "spanMeets", unfollowed := true, recurses := true, apart := false, narrowed := true }
def SpanMeetsUptoSaid : Prop := spanMeetsUptoRow.holds Try.pinned (OpenSpec.upto spanMeetsSpec)

/-- 'downspoutlaw02.SpanCovers', WHERE WHAT IT READS IS OF BULK AT MOST 1048576: true; the input reads as it did. -/
def spanCoversUptoRow : OpenClaim := { program := "ytloajdobgadplaa", sum := "52d3b8e29942b98804040129b68148df365ef2e5ddebb06680adb565662f7d5f", func := "downspout/downspoutlaw02.SpanCovers", spec := "spanCovers", unfollowed := true, recurses := true, apart := false, narrowed := true }
def SpanCoversUptoSaid : Prop := spanCoversUptoRow.holds Try.pinned (OpenSpec.upto spanCoversSpec)

/-- 'downspoutlaw02.SpanNorm', WHERE WHAT IT READS IS OF BULK AT MOST 1048576: true; the input reads as it did. -/
def spanNormUptoRow : OpenClaim := { program := "ytloajdobgadplaa", sum := "52d3b8e29942b98804040129b68148df365ef2e5ddebb06680adb565662f7d5f", func := "downspout/downspoutlaw02.SpanNorm", spec := "spanNorm", unfollowed := true, recurses := true, apart := false, narrowed := true }
def SpanNormUptoSaid : Prop := spanNormUptoRow.holds Try.pinned (OpenSpec.upto spanNormSpec)

/-- 'downspoutlaw02.SpanMinus', WHERE WHAT IT READS IS OF BULK AT MOST 1048576: true; the input reads as it did. -/
def spanMinusUptoRow : OpenClaim := { program := "ytloajdobgadplaa", sum := "52d3b8e29942b98804040129b68148df365ef2e5ddebb06680adb565662f7d5f", func := "downspout/downspoutlaw02.SpanMinus", spec := "spanMinus", unfollowed := true, recurses := true, apart := false, narrowed := true }
def SpanMinusUptoSaid : Prop := spanMinusUptoRow.holds Try.pinned (OpenSpec.upto spanMinusSpec)

/-- 'downspoutlaw02.SpanParts', WHERE WHAT IT READS IS OF BULK AT MOST 1048576: true; the input reads as it did. -/
def spanPartsUptoRow : OpenClaim := { program := "ytloajdobgadplaa", sum := "52d3b8e29942b98804040129b68148df365ef2e5ddebb06680adb565662f7d5f", func := "downspout/downspoutlaw02.SpanParts", spec := "spanParts", unfollowed := true, recurses := true, apart := false, narrowed := true }
def SpanPartsUptoSaid : Prop := spanPartsUptoRow.holds Try.pinned (OpenSpec.upto spanPartsSpec)

/-- 'downspoutlaw02.SpanMoves', WHERE WHAT IT READS IS OF BULK AT MOST 1048576: true; the input reads as it did. -/
def spanMovesUptoRow : OpenClaim := { program := "ytloajdobgadplaa", sum := "52d3b8e29942b98804040129b68148df365ef2e5ddebb06680adb565662f7d5f", func := "downspout/downspoutlaw02.SpanMoves", spec := "spanMoves", unfollowed := true, recurses := true, apart := false, narrowed := true }
def SpanMovesUptoSaid : Prop := spanMovesUptoRow.holds Try.pinned (OpenSpec.upto spanMovesSpec)

end Rows
end Go.Proofs.Ytloajdobgadplaa
