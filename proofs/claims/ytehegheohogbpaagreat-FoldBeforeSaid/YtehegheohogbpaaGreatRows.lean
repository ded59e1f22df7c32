/-
  No cell of these rows narrows 'for every input' (looked for: loops, veiled, ifaces, maps, wideKeys, modest, calm, conditions, laid).
  DERIVED. THE GIVEN ROWS OF THIS SEAT. 7 by the template 'for every input the law returns true; each argument reads behind the call as it read before'; 0 by the template 'total and deterministic' (their statements: YtehegheohogbpaaGreatTotals.lean).
  GIVEN WITH THE SEED: the statements are not yours to turn. If you find one false, say at which input.
  Laid BY PROGRAM, IN A SANDBOX (cutbox-rows.mjs): the forced cells as the released guide's own fill.sh prints them over the translation a432c03addafbb9b… (all of the seat's roots in one cut). By AI agents, Wed Nov 11 2026. No macro, syntax, notation, axiom, sorry.
-/
import Derived.Test.YtehegheohogbpaaGreatChecked
import GoSem.Claim
import GoSem.ClaimJoined
import GoSem.ClaimMapViews
import Derived.JoinedTies
import Derived.KernelRfl
namespace Go.Proofs.YtehegheohogbpaaGreat
/- THE CELL 'sum', in the pinned program and in every row, IS THE sha256 OF THE DUMP (.gsa) THAT YtehegheohogbpaaGreatProg.lean LOADS. Nothing in Lean hashes anything: it is a label: what it is worth is what the hold of that sum in a sandbox is worth. -/
noncomputable def Tryz.pinned : Pinned := { name := "ytehegheohogbpaagreat", sum := "a432c03addafbb9bcdb70d3ae0d8b1a5a7c08b75ec02245b0ee93efd6d7ff8b1", checked := Tryz.checked }
namespace Rows
def none {H : Type} : Left H := { results := [], args := [] }

/-- 'downspoutlaw06.FoldMatchesReference': WHATEVER THE INPUT: true; the input reads as it did. -/
def foldMatchesReferenceSpec : ChangeSpec := { name := "foldMatchesReference", fn := fun _ => fun
  | [d1, d2, d3] => { results := [.lit (.bool true)], args := [d1, d2, d3] }
  | _ => none }
def foldMatchesReferenceRow : OpenClaim := { program := "ytehegheohogbpaagreat", sum := "a432c03addafbb9bcdb70d3ae0d8b1a5a7c08b75ec02245b0ee93efd6d7ff8b1", func := "downspout/downspoutlaw06.FoldMatchesReference", spec := "foldMatchesReference", unfollowed := true, recurses := true, apart := false }
def FoldMatchesReferenceSaid : Prop := foldMatchesReferenceRow.holds Tryz.pinned (OpenSpec.ofChange foldMatchesReferenceSpec)

/-- ITS FALSE NEIGHBOUR: 'it returns false'. Refute it at one input. -/
def foldMatchesReferenceWrong : ChangeSpec := { name := "foldMatchesReference", fn := fun _ => fun
  | [d1, d2, d3] => { results := [.lit (.bool false)], args := [d1, d2, d3] }
  | _ => none }
def FoldMatchesReferenceWrongFalsely : Prop := foldMatchesReferenceRow.holds Tryz.pinned (OpenSpec.ofChange foldMatchesReferenceWrong)

/-- 'downspoutlaw06.FoldParts': WHATEVER THE INPUT: true; the input reads as it did. -/
def foldPartsSpec : ChangeSpec := { name := "foldParts", fn := fun _ => fun
  | [d] => { results := [.lit (.bool true)], args := [d] }
  | _ => none }
def foldPartsRow : OpenClaim := { program := "ytehegheohogbpaagreat", sum := "a432c03addafbb9bcdb70d3ae0d8b1a5a7c08b75ec02245b0ee93efd6d7ff8b1", func := "downspout/downspoutlaw06.FoldParts", spec := "foldParts", unfollowed := true, recurses := true, apart := false }
def FoldPartsSaid : Prop := foldPartsRow.holds Tryz.pinned (OpenSpec.ofChange foldPartsSpec)

/-- ITS FALSE NEIGHBOUR: 'it returns false'. Refute it at one input. -/
def foldPartsWrong : ChangeSpec := { name := "foldParts", fn := fun _ => fun
  | [d] => { results := [.lit (.bool false)], args := [d] }
  | _ => none }
def FoldPartsWrongFalsely : Prop := foldPartsRow.holds Tryz.pinned (OpenSpec.ofChange foldPartsWrong)

/-- 'downspoutlaw06.FoldCovers': WHATEVER THE INPUT: true; the input reads as it did. -/
def foldCoversSpec : ChangeSpec := { name := "foldCovers", fn := fun _ => fun
  | [d1, d2] => { results := [.lit (.bool true)], args := [d1, d2] }
  | _ => none }
def foldCoversRow : OpenClaim := { program := "ytehegheohogbpaagreat", sum := "a432c03addafbb9bcdb70d3ae0d8b1a5a7c08b75ec02245b0ee93efd6d7ff8b1", func := "downspout/downspoutlaw06.FoldCovers", spec := "foldCovers", unfollowed := true, recurses := true, apart := false }
def FoldCoversSaid : Prop := foldCoversRow.holds Tryz.pinned (OpenSpec.ofChange foldCoversSpec)

/-- ITS FALSE NEIGHBOUR: 'it returns false'. Refute it at one input. -/
def foldCoversWrong : ChangeSpec := { name := "foldCovers", fn := fun _ => fun
  | [d1, d2] => { results := [.lit (.bool false)], args := [d1, d2] }
  | _ => none }
def FoldCoversWrongFalsely : Prop := foldCoversRow.holds Tryz.pinned (OpenSpec.ofChange foldCoversWrong)

/-- 'downspoutlaw06.FoldKeeps': WHATEVER THE INPUT: true; the input reads as it did. -/
def foldKeepsSpec : ChangeSpec := { name := "foldKeeps", fn := fun _ => fun
  | [d1, d2] => { results := [.lit (.bool true)], args := [d1, d2] }
  | _ => none }
def foldKeepsRow : OpenClaim := { program := "ytehegheohogbpaagreat", sum := "a432c03addafbb9bcdb70d3ae0d8b1a5a7c08b75ec02245b0ee93efd6d7ff8b1", func := "downspout/downspoutlaw06.FoldKeeps", spec := "foldKeeps", unfollowed := true, recurses := true, apart := false }
def FoldKeepsSaid : Prop := foldKeepsRow.holds Tryz.pinned (OpenSpec.ofChange foldKeepsSpec)

/-- ITS FALSE NEIGHBOUR: 'it returns false'. Refute it at one input. -/
def foldKeepsWrong : ChangeSpec := { name := "foldKeeps", fn := fun _ => fun
  | [d1, d2] => { results := [.lit (.bool false)], args := [d1, d2] }
  | _ => none }
def FoldKeepsWrongFalsely : Prop := foldKeepsRow.holds Tryz.pinned (OpenSpec.ofChange foldKeepsWrong)

/-- 'downspoutlaw06.FoldOutside': WHATEVER THE INPUT: true; the input reads as it did. -/
def foldOutsideSpec : ChangeSpec := { name := "foldOutside", fn := fun _ => fun
  | [d1, d2, d3] => { results := [.lit (.bool true)], args := [d1, d2, d3] }
  | _ => none }
def foldOutsideRow : OpenClaim := { program := "ytehegheohogbpaagreat", sum := "a432c03addafbb9bcdb70d3ae0d8b1a5a7c08b75ec02245b0ee93efd6d7ff8b1", func := "downspout/downspoutlaw06.FoldOutside", spec := "foldOutside", unfollowed := true, recurses := true, apart := false }
def FoldOutsideSaid : Prop := foldOutsideRow.holds Tryz.pinned (OpenSpec.ofChange foldOutsideSpec)

/-- ITS FALSE NEIGHBOUR: 'it returns false'. Refute it at one input. -/
def foldOutsideWrong : ChangeSpec := { name := "foldOutside", fn := fun _ => fun
  | [d1, d2, d3] => { results := [.lit (.bool false)], args := [d1, d2, d3] }
  | _ => none }
def FoldOutsideWrongFalsely : Prop := foldOutsideRow.holds Tryz.pinned (OpenSpec.ofChange foldOutsideWrong)

/-- 'downspoutlaw06.FoldMerges': WHATEVER THE INPUT: true; the input reads as it did. -/
def foldMergesSpec : ChangeSpec := { name := "foldMerges", fn := fun _ => fun
  | [d1, d2, d3] => { results := [.lit (.bool true)], args := [d1, d2, d3] }
  | _ => none }
def foldMergesRow : OpenClaim := { program := "ytehegheohogbpaagreat", sum := "a432c03addafbb9bcdb70d3ae0d8b1a5a7c08b75ec02245b0ee93efd6d7ff8b1", func := "downspout/downspoutlaw06.FoldMerges", spec := "foldMerges", unfollowed := true, recurses := true, apart := false }
def FoldMergesSaid : Prop := foldMergesRow.holds Tryz.pinned (OpenSpec.ofChange foldMergesSpec)

/-- ITS FALSE NEIGHBOUR: 'it returns false'. Refute it at one input. -/
def foldMergesWrong : ChangeSpec := { name := "foldMerges", fn := fun _ => fun
  | [d1, d2, d3] => { results := [.lit (.bool false)], args := [d1, d2, d3] }
  | _ => none }
def FoldMergesWrongFalsely : Prop := foldMergesRow.holds Tryz.pinned (OpenSpec.ofChange foldMergesWrong)

/-- 'downspoutlaw06.FoldBefore': WHATEVER THE INPUT: true; the input reads as it did. -/
def foldBeforeSpec : ChangeSpec := { name := "foldBefore", fn := fun _ => fun
  | [d1, d2, d3] => { results := [.lit (.bool true)], args := [d1, d2, d3] }
  | _ => none }
def foldBeforeRow : OpenClaim := { program := "ytehegheohogbpaagreat", sum := "a432c03addafbb9bcdb70d3ae0d8b1a5a7c08b75ec02245b0ee93efd6d7ff8b1", func := "downspout/downspoutlaw06.FoldBefore", spec := "foldBefore", unfollowed := true, recurses := true, apart := false }
def FoldBeforeSaid : Prop := foldBeforeRow.holds Tryz.pinned (OpenSpec.ofChange foldBeforeSpec)

/-- ITS FALSE NEIGHBOUR: 'it returns false'. Refute it at one input. -/
def foldBeforeWrong : ChangeSpec := { name := "foldBefore", fn := fun _ => fun
  | [d1, d2, d3] => { results := [.lit (.bool false)], args := [d1, d2, d3] }
  | _ => none }
def FoldBeforeWrongFalsely : Prop := foldBeforeRow.holds Tryz.pinned (OpenSpec.ofChange foldBeforeWrong)

/- THE SECOND FORM. 'bulk': how many values and letters a reading holds, each counted each time it is reached (what is shared counts as often as it is met; a slice's spare places count too). A statement '..UptoSaid' is the law's where the arguments, and the package variables that the reading takes, are together of bulk at most 1048576: NARROWER than '..Said'. Prove '..Said' where nothing that the law and all that it calls make is longer than what came in: it says more and counts as full. Else prove '..UptoSaid'. A law counts once. -/
mutual
def uptoBulk {H : Type} : DataW H → Nat
  | .lit (.string bytes) => bytes.length + 1
  | .lit _ => 1
  | .nil => 1
  | .ptr d => uptoBulk d + 1
  | .slice elems spare => uptoBulkAll elems + uptoBulkAll spare + 1
  | .agg parts => uptoBulkAll parts + 1
  | .iface _ d => uptoBulk d + 1
  | .map entries => uptoBulkEntries entries + 1
  | .held _ => 1
def uptoBulkAll {H : Type} : List (DataW H) → Nat
  | [] => 0
  | d :: r => uptoBulk d + uptoBulkAll r
def uptoBulkEntries {H : Type} : List (Lit × DataW H) → Nat
  | [] => 0
  | x :: r => uptoBulkEntry x + uptoBulkEntries r
def uptoBulkEntry {H : Type} : Lit × DataW H → Nat
  | (.string bytes, d) => bytes.length + uptoBulk d + 1
  | (_, d) => uptoBulk d + 1
 end
def uptoSmall : (H : Type) → List (DataW H) → Bool := fun _ ds => decide (uptoBulkAll ds ≤ 1048576)
def OpenSpec.upto (s : _root_.Go.ChangeSpec) : _root_.Go.OpenSpec := { _root_.Go.OpenSpec.ofChange s with cond := some uptoSmall }

/-- 'downspoutlaw06.FoldMatchesReference', WHERE WHAT IT READS IS OF BULK AT MOST 1048576: true; the input reads as it did. -/
def foldMatchesReferenceUptoRow : OpenClaim := { program := "ytehegheohogbpaagreat", sum := "a432c03addafbb9bcdb70d3ae0d8b1a5a7c08b75ec02245b0ee93efd6d7ff8b1", func := "downspout/downspoutlaw06.FoldMatchesReference", spec := "foldMatchesReference", unfollowed := true, recurses := true, apart := false, narrowed := true }
def FoldMatchesReferenceUptoSaid : Prop := foldMatchesReferenceUptoRow.holds Tryz.pinned (OpenSpec.upto foldMatchesReferenceSpec)

/-- 'downspoutlaw06.FoldParts', WHERE WHAT IT READS IS OF BULK AT MOST 1048576: true; the input reads as it did. -/
def foldPartsUptoRow : OpenClaim := { program := "ytehegheohogbpaagreat", sum := "a432c03addafbb9bcdb70d3ae0d8b1a5a7c08b75ec02245b0ee93efd6d7ff8b1", func := "downspout/downspoutlaw06.FoldParts", spec := "foldParts", unfollowed := true, recurses := true, apart := false, narrowed := true }
def FoldPartsUptoSaid : Prop := foldPartsUptoRow.holds Tryz.pinned (OpenSpec.upto foldPartsSpec)

/-- 'downspoutlaw06.FoldCovers', WHERE WHAT IT READS IS OF BULK AT MOST 1048576: true; the input reads as it did. -/
def foldCoversUptoRow : OpenClaim := { program := "ytehegheohogbpaagreat", sum := "a432c03addafbb9bcdb70d3ae0d8b1a5a7c08b75ec02245b0ee93efd6d7ff8b1", func := "downspout/downspoutlaw06.FoldCovers", spec := "foldCovers", unfollowed := true, recurses := true, apart := false, narrowed := true }
def FoldCoversUptoSaid : Prop := foldCoversUptoRow.holds Tryz.pinned (OpenSpec.upto foldCoversSpec)

/-- 'downspoutlaw06.FoldKeeps', WHERE WHAT IT READS IS OF BULK AT MOST 1048576: true; the input reads as it did. -/
def foldKeepsUptoRow : OpenClaim := { program := "ytehegheohogbpaagreat", sum := "a432c03addafbb9bcdb70d3ae0d8b1a5a7c08b75ec02245b0ee93efd6d7ff8b1", func := "downspout/downspoutlaw06.FoldKeeps", spec := "foldKeeps", unfollowed := true, recurses := true, apart := false, narrowed := true }
def FoldKeepsUptoSaid : Prop := foldKeepsUptoRow.holds Tryz.pinned (OpenSpec.upto foldKeepsSpec)

/-- 'downspoutlaw06.FoldOutside', WHERE WHAT IT READS IS OF BULK AT MOST 1048576: true; the input reads as it did. -/
def foldOutsideUptoRow : OpenClaim := { program := "ytehegheohogbpaagreat", sum := "a432c03addafbb9bcdb70d3ae0d8b1a5a7c08b75ec02245b0ee93efd6d7ff8b1", func := "downspout/downspoutlaw06.FoldOutside", spec := "foldOutside", unfollowed := true, recurses := true, apart := false, narrowed := true }
def FoldOutsideUptoSaid : Prop := foldOutsideUptoRow.holds Tryz.pinned (OpenSpec.upto foldOutsideSpec)

/-- 'downspoutlaw06.FoldMerges', WHERE WHAT IT READS IS OF BULK AT MOST 1048576: true; the input reads as it did. -/
def foldMergesUptoRow : OpenClaim := { program := "ytehegheohogbpaagreat", sum := "a432c03addafbb9bcdb70d3ae0d8b1a5a7c08b75ec02245b0ee93efd6d7ff8b1", func := "downspout/downspoutlaw06.FoldMerges", spec := "foldMerges", unfollowed := true, recurses := true, apart := false, narrowed := true }
def FoldMergesUptoSaid : Prop := foldMergesUptoRow.holds Tryz.pinned (OpenSpec.upto foldMergesSpec)

/-- 'downspoutlaw06.FoldBefore', WHERE WHAT IT READS IS OF BULK AT MOST 1048576: true; the input reads as it did. -/
def foldBeforeUptoRow : OpenClaim := { program := "ytehegheohogbpaagreat", sum := "a432c03addafbb9bcdb70d3ae0d8b1a5a7c08b75ec02245b0ee93efd6d7ff8b1", func := "downspout/downspoutlaw06.FoldBefore", spec := "foldBefore", unfollowed := true, recurses := true, apart := false, narrowed := true }
def FoldBeforeUptoSaid : Prop := foldBeforeUptoRow.holds Tryz.pinned (OpenSpec.upto foldBeforeSpec)

end Rows
end Go.Proofs.YtehegheohogbpaaGreat
