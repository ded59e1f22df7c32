/-
  No cell of these rows narrows 'for every input' (looked for: loops, veiled, ifaces, maps, wideKeys, modest, calm, conditions, laid).
  DERIVED. THE GIVEN ROWS OF THIS SEAT. 8 by the template 'for every input the law returns true; each argument reads behind the call as it read before'; 0 by the template 'total and deterministic' (their statements: YtkbjaoophgepcaaTotals.lean).
  GIVEN WITH THE SEED: the statements are not yours to turn. If you find one false, say at which input.
  Laid BY PROGRAM, IN A SANDBOX (cutbox-rows.mjs): the forced cells as the released guide's own fill.sh prints them over the translation 2744c0c4e7aef560… (all of the seat's roots in one cut). By AI agents, Wed Nov 11 2026. No macro, syntax, notation, axiom, sorry.
-/
import Derived.Test.YtkbjaoophgepcaaChecked
import GoSem.Claim
import GoSem.ClaimJoined
import GoSem.ClaimMapViews
import Derived.JoinedTies
import Derived.KernelRfl
namespace Go.Proofs.Ytkbjaoophgepcaa
/- THE CELL 'sum', in the pinned program and in every row, IS THE sha256 OF THE DUMP (.gsa) THAT YtkbjaoophgepcaaProg.lean LOADS. Nothing in Lean hashes anything: it is a label: what it is worth is what the hold of that sum in a sandbox is worth. -/
noncomputable def Try.pinned : Pinned := { name := "ytkbjaoophgepcaa", sum := "2744c0c4e7aef560d8e8c12e4e260744615167698b3ae1e8e22c4f5866f5b0fe", checked := Try.checked }
namespace Rows
def none {H : Type} : Left H := { results := [], args := [] }

/-- 'downspoutlaw32.LockEnds': WHATEVER THE INPUT: true; the input reads as it did. -/
def lockEndsSpec : ChangeSpec := { name := "lockEnds", fn := fun _ => fun
  | [d1, d2] => { results := [.lit (.bool true)], args := [d1, d2] }
  | _ => none }
def lockEndsRow : OpenClaim := { program := "ytkbjaoophgepcaa", sum := "2744c0c4e7aef560d8e8c12e4e260744615167698b3ae1e8e22c4f5866f5b0fe", func := "downspout/downspoutlaw32.LockEnds", spec := "lockEnds", unfollowed := true, recurses := true, apart := false }
def LockEndsSaid : Prop := lockEndsRow.holds Try.pinned (OpenSpec.ofChange lockEndsSpec)

/-- ITS FALSE NEIGHBOUR: 'it returns false'. Refute it at one input. -/
def lockEndsWrong : ChangeSpec := { name := "lockEnds", fn := fun _ => fun
  | [d1, d2] => { results := [.lit (.bool false)], args := [d1, d2] }
  | _ => none }
def LockEndsWrongFalsely : Prop := lockEndsRow.holds Try.pinned (OpenSpec.ofChange lockEndsWrong)

/-- 'downspoutlaw32.LockDead': WHATEVER THE INPUT: true; the input reads as it did. -/
def lockDeadSpec : ChangeSpec := { name := "lockDead", fn := fun _ => fun
  | [d1, d2] => { results := [.lit (.bool true)], args := [d1, d2] }
  | _ => none }
def lockDeadRow : OpenClaim := { program := "ytkbjaoophgepcaa", sum := "2744c0c4e7aef560d8e8c12e4e260744615167698b3ae1e8e22c4f5866f5b0fe", func := "downspout/downspoutlaw32.LockDead", spec := "lockDead", unfollowed := true, recurses := true, apart := false }
def LockDeadSaid : Prop := lockDeadRow.holds Try.pinned (OpenSpec.ofChange lockDeadSpec)

/-- ITS FALSE NEIGHBOUR: 'it returns false'. Refute it at one input. -/
def lockDeadWrong : ChangeSpec := { name := "lockDead", fn := fun _ => fun
  | [d1, d2] => { results := [.lit (.bool false)], args := [d1, d2] }
  | _ => none }
def LockDeadWrongFalsely : Prop := lockDeadRow.holds Try.pinned (OpenSpec.ofChange lockDeadWrong)

/-- 'downspoutlaw32.LockMoves': WHATEVER THE INPUT: true; the input reads as it did. -/
def lockMovesSpec : ChangeSpec := { name := "lockMoves", fn := fun _ => fun
  | [d1, d2] => { results := [.lit (.bool true)], args := [d1, d2] }
  | _ => none }
def lockMovesRow : OpenClaim := { program := "ytkbjaoophgepcaa", sum := "2744c0c4e7aef560d8e8c12e4e260744615167698b3ae1e8e22c4f5866f5b0fe", func := "downspout/downspoutlaw32.LockMoves", spec := "lockMoves", unfollowed := true, recurses := true, apart := false }
def LockMovesSaid : Prop := lockMovesRow.holds Try.pinned (OpenSpec.ofChange lockMovesSpec)

/-- ITS FALSE NEIGHBOUR: 'it returns false'. Refute it at one input. -/
def lockMovesWrong : ChangeSpec := { name := "lockMoves", fn := fun _ => fun
  | [d1, d2] => { results := [.lit (.bool false)], args := [d1, d2] }
  | _ => none }
def LockMovesWrongFalsely : Prop := lockMovesRow.holds Try.pinned (OpenSpec.ofChange lockMovesWrong)

/-- 'downspoutlaw32.LockRefuses': WHATEVER THE INPUT: true; the input reads as it did. -/
def lockRefusesSpec : ChangeSpec := { name := "lockRefuses", fn := fun _ => fun
  | [d1, d2, d3] => { results := [.lit (.bool true)], args := [d1, d2, d3] }
  | _ => none }
def lockRefusesRow : OpenClaim := { program := "ytkbjaoophgepcaa", sum := "2744c0c4e7aef560d8e8c12e4e260744615167698b3ae1e8e22c4f5866f5b0fe", func := "downspout/downspoutlaw32.LockRefuses", spec := "lockRefuses", unfollowed := true, recurses := true, apart := false }
def LockRefusesSaid : Prop := lockRefusesRow.holds Try.pinned (OpenSpec.ofChange lockRefusesSpec)

/-- ITS FALSE NEIGHBOUR: 'it returns false'. Refute it at one input. -/
def lockRefusesWrong : ChangeSpec := { name := "lockRefuses", fn := fun _ => fun
  | [d1, d2, d3] => { results := [.lit (.bool false)], args := [d1, d2, d3] }
  | _ => none }
def LockRefusesWrongFalsely : Prop := lockRefusesRow.holds Try.pinned (OpenSpec.ofChange lockRefusesWrong)

/-- 'downspoutlaw32.LockMatchesReference': WHATEVER THE INPUT: true; the input reads as it did. -/
def lockMatchesReferenceSpec : ChangeSpec := { name := "lockMatchesReference", fn := fun _ => fun
  | [d1, d2, d3] => { results := [.lit (.bool true)], args := [d1, d2, d3] }
  | _ => none }
def lockMatchesReferenceRow : OpenClaim := { program := "ytkbjaoophgepcaa", sum := "2744c0c4e7aef560d8e8c12e4e260744615167698b3ae1e8e22c4f5866f5b0fe", func := "downspout/downspoutlaw32.LockMatchesReference", spec := "lockMatchesReference", unfollowed := true, recurses := true, apart := false }
def LockMatchesReferenceSaid : Prop := lockMatchesReferenceRow.holds Try.pinned (OpenSpec.ofChange lockMatchesReferenceSpec)

/-- ITS FALSE NEIGHBOUR: 'it returns false'. Refute it at one input. -/
def lockMatchesReferenceWrong : ChangeSpec := { name := "lockMatchesReference", fn := fun _ => fun
  | [d1, d2, d3] => { results := [.lit (.bool false)], args := [d1, d2, d3] }
  | _ => none }
def LockMatchesReferenceWrongFalsely : Prop := lockMatchesReferenceRow.holds Try.pinned (OpenSpec.ofChange lockMatchesReferenceWrong)

/-- 'downspoutlaw32.LockSound': WHATEVER THE INPUT: true; the input reads as it did. -/
def lockSoundSpec : ChangeSpec := { name := "lockSound", fn := fun _ => fun
  | [d] => { results := [.lit (.bool true)], args := [d] }
  | _ => none }
def lockSoundRow : OpenClaim := { program := "ytkbjaoophgepcaa", sum := "2744c0c4e7aef560d8e8c12e4e260744615167698b3ae1e8e22c4f5866f5b0fe", func := "downspout/downspoutlaw32.LockSound", spec := "lockSound", unfollowed := true, recurses := true, apart := false }
def LockSoundSaid : Prop := lockSoundRow.holds Try.pinned (OpenSpec.ofChange lockSoundSpec)

/-- ITS FALSE NEIGHBOUR: 'it returns false'. Refute it at one input. -/
def lockSoundWrong : ChangeSpec := { name := "lockSound", fn := fun _ => fun
  | [d] => { results := [.lit (.bool false)], args := [d] }
  | _ => none }
def LockSoundWrongFalsely : Prop := lockSoundRow.holds Try.pinned (OpenSpec.ofChange lockSoundWrong)

/-- 'downspoutlaw32.LockOrder': WHATEVER THE INPUT: true; the input reads as it did. -/
def lockOrderSpec : ChangeSpec := { name := "lockOrder", fn := fun _ => fun
  | [d1, d2, d3] => { results := [.lit (.bool true)], args := [d1, d2, d3] }
  | _ => none }
def lockOrderRow : OpenClaim := { program := "ytkbjaoophgepcaa", sum := "2744c0c4e7aef560d8e8c12e4e260744615167698b3ae1e8e22c4f5866f5b0fe", func := "downspout/downspoutlaw32.LockOrder", spec := "lockOrder", unfollowed := true, recurses := true, apart := false }
def LockOrderSaid : Prop := lockOrderRow.holds Try.pinned (OpenSpec.ofChange lockOrderSpec)

/-- ITS FALSE NEIGHBOUR: 'it returns false'. Refute it at one input. -/
def lockOrderWrong : ChangeSpec := { name := "lockOrder", fn := fun _ => fun
  | [d1, d2, d3] => { results := [.lit (.bool false)], args := [d1, d2, d3] }
  | _ => none }
def LockOrderWrongFalsely : Prop := lockOrderRow.holds Try.pinned (OpenSpec.ofChange lockOrderWrong)

/-- 'downspoutlaw32.LockLeaves': WHATEVER THE INPUT: true; the input reads as it did. -/
def lockLeavesSpec : ChangeSpec := { name := "lockLeaves", fn := fun _ => fun
  | [d1, d2] => { results := [.lit (.bool true)], args := [d1, d2] }
  | _ => none }
def lockLeavesRow : OpenClaim := { program := "ytkbjaoophgepcaa", sum := "2744c0c4e7aef560d8e8c12e4e260744615167698b3ae1e8e22c4f5866f5b0fe", func := "downspout/downspoutlaw32.LockLeaves", spec := "lockLeaves", unfollowed := true, recurses := true, apart := false }
def LockLeavesSaid : Prop := lockLeavesRow.holds Try.pinned (OpenSpec.ofChange lockLeavesSpec)

/-- ITS FALSE NEIGHBOUR: 'it returns false'. Refute it at one input. -/
def lockLeavesWrong : ChangeSpec := { name := "lockLeaves", fn := fun _ => fun
  | [d1, d2] => { results := [.lit (.bool false)], args := [d1, d2] }
  | _ => none }
def LockLeavesWrongFalsely : Prop := lockLeavesRow.holds Try.pinned (OpenSpec.ofChange lockLeavesWrong)

/- THE SECOND FORM. 'bulk': how many values and letters a reading holds, each counted each time it is reached (what is shared counts as often as it is met; a slice's spare places count too). A statement '..UptoSaid' is the law's where the arguments, and the package variables that the reading takes, are together of bulk at most 1048576: NARROWER than '..Said'. Prove '..Said' where nothing that the law and all that it calls make is longer than what came in: it says more and counts as full. Else prove '..UptoSaid'. A law counts once. -/
mutual
def uptoBulk {H : Type} : DataW H → Nat
  | .lit (.string bytes) => bytes.length + 1
  | .lit _ => 1
  | .nil => 1
  | .ptr d => uptoBulk d + 1
  | .slice elems spare => uptoBulkAll elems + uptoBulkAll spare + 1
  | .agg parts => uptoBulkAll parts + 1
  | .iface _ d => uptoBulk d + 1
  | .map entries => uptoBulkEntries entries + 1
  | .held _ => 1
def uptoBulkAll {H : Type} : List (DataW H) → Nat
  | [] => 0
  | d :: r => uptoBulk d + uptoBulkAll r
def uptoBulkEntries {H : Type} : List (Lit × DataW H) → Nat
  | [] => 0
  | x :: r => uptoBulkEntry x + uptoBulkEntries r
def uptoBulkEntry {H : Type} : Lit × DataW H → Nat
  | (.string bytes, d) => bytes.length + uptoBulk d + 1
  | (_, d) => uptoBulk d + 1
 end
def uptoSmall : (H : Type) → List (DataW H) → Bool := fun _ ds => decide (uptoBulkAll ds ≤ 1048576)
def OpenSpec.upto (s : _root_.Go.ChangeSpec) : _root_.Go.OpenSpec := { _root_.Go.OpenSpec.ofChange s with cond := some uptoSmall }

/-- 'downspoutlaw32.LockEnds', WHERE WHAT IT READS IS OF BULK AT MOST 1048576: true; the input reads as it did. -/
def lockEndsUptoRow : OpenClaim := { program := "ytkbjaoophgepcaa", sum := "2744c0c4e7aef560d8e8c12e4e260744615167698b3ae1e8e22c4f5866f5b0fe", func := "downspout/downspoutlaw32.LockEnds", spec := "lockEnds", unfollowed := true, recurses := true, apart := false, narrowed := true }
def LockEndsUptoSaid : Prop := lockEndsUptoRow.holds Try.pinned (OpenSpec.upto lockEndsSpec)

/-- 'downspoutlaw32.LockDead', WHERE WHAT IT READS IS OF BULK AT MOST 1048576: true; the input reads as it did. -/
def lockDeadUptoRow : OpenClaim := { program := "ytkbjaoophgepcaa", sum := "2744c0c4e7aef560d8e8c12e4e260744615167698b3ae1e8e22c4f5866f5b0fe", func := "downspout/downspoutlaw32.LockDead", spec := "lockDead", unfollowed := true, recurses := true, apart := false, narrowed := true }
def LockDeadUptoSaid : Prop := lockDeadUptoRow.holds Try.pinned (OpenSpec.upto lockDeadSpec)

/-- 'downspoutlaw32.LockMoves', WHERE WHAT IT READS IS OF BULK AT MOST 1048576: true; the input reads as it did. -/
def lockMovesUptoRow : OpenClaim := { program := "ytkbjaoophgepcaa", sum := "2744c0c4e7aef560d8e8c12e4e260744615167698b3ae1e8e22c4f5866f5b0fe", func := "downspout/downspoutlaw32.LockMoves", spec := "lockMoves", unfollowed := true, recurses := true, apart := false, narrowed := true }
def LockMovesUptoSaid : Prop := lockMovesUptoRow.holds Try.pinned (OpenSpec.upto lockMovesSpec)

/-- 'downspoutlaw32.LockRefuses', WHERE WHAT IT READS IS OF BULK AT MOST 1048576: true; the input reads as it did. -/
def lockRefusesUptoRow : OpenClaim := { program := "ytkbjaoophgepcaa", sum := "2744c0c4e7aef560d8e8c12e4e260744615167698b3ae1e8e22c4f5866f5b0fe", func := "downspout/downspoutlaw32.LockRefuses", spec := "lockRefuses", unfollowed := true, recurses := true, apart := false, narrowed := true }
def LockRefusesUptoSaid : Prop := lockRefusesUptoRow.holds Try.pinned (OpenSpec.upto lockRefusesSpec)

/-- 'downspoutlaw32.LockMatchesReference', WHERE WHAT IT READS IS OF BULK AT MOST 1048576: true; the input reads as it did. -/
def lockMatchesReferenceUptoRow : OpenClaim := { program := "ytkbjaoophgepcaa", sum := "2744c0c4e7aef560d8e8c12e4e260744615167698b3ae1e8e22c4f5866f5b0fe", func := "downspout/downspoutlaw32.LockMatchesReference", spec := "lockMatchesReference", unfollowed := true, recurses := true, apart := false, narrowed := true }
def LockMatchesReferenceUptoSaid : Prop := lockMatchesReferenceUptoRow.holds Try.pinned (OpenSpec.upto lockMatchesReferenceSpec)

/-- 'downspoutlaw32.LockSound', WHERE WHAT IT READS IS OF BULK AT MOST 1048576: true; the input reads as it did. -/
def lockSoundUptoRow : OpenClaim := { program := "ytkbjaoophgepcaa", sum := "2744c0c4e7aef560d8e8c12e4e260744615167698b3ae1e8e22c4f5866f5b0fe", func := "downspout/downspoutlaw32.LockSound", spec := "lockSound", unfollowed := true, recurses := true, apart := false, narrowed := true }
def LockSoundUptoSaid : Prop := lockSoundUptoRow.holds Try.pinned (OpenSpec.upto lockSoundSpec)

/-- 'downspoutlaw32.LockOrder', WHERE WHAT IT READS IS OF BULK AT MOST 1048576: true; the input reads as it did. -/
def lockOrderUptoRow : OpenClaim := { program := "ytkbjaoophgepcaa", sum := "2744c0c4e7aef560d8e8c12e4e260744615167698b3ae1e8e22c4f5866f5b0fe", func := "downspout/downspoutlaw32.LockOrder", spec := "lockOrder", unfollowed := true, recurses := true, apart := false, narrowed := true }
def LockOrderUptoSaid : Prop := lockOrderUptoRow.holds Try.pinned (OpenSpec.upto lockOrderSpec)

/-- 'downspoutlaw32.LockLeaves', WHERE WHAT IT READS IS OF BULK AT MOST 1048576: true; the input reads as it did. -/
def lockLeavesUptoRow : OpenClaim := { program := "ytkbjaoophgepcaa", sum := "2744c0c4e7aef560d8e8c12e4e260744615167698b3ae1e8e22c4f5866f5b0fe", func := "downspout/downspoutlaw32.LockLeaves", spec := "lockLeaves", unfollowed := true, recurses := true, apart := false, narrowed := true }
def LockLeavesUptoSaid : Prop := lockLeavesUptoRow.holds Try.pinned (OpenSpec.upto lockLeavesSpec)

end Rows
end Go.Proofs.Ytkbjaoophgepcaa
