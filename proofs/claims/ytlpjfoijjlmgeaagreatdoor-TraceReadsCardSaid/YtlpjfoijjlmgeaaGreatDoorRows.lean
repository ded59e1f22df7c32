/-
  NARROWER THAN 'FOR EVERY INPUT', by the rows' own cells (each row's printed sentence says how): TraceNeeds: laid · TraceReads: laid.
  DERIVED. THE GIVEN ROWS OF THIS SEAT. 2 by the template 'for every input the law returns true; each argument reads behind the call as it read before'; 0 by the template 'total and deterministic' (their statements: YtlpjfoijjlmgeaaGreatDoorTotals.lean).
  GIVEN WITH THE SEED: the statements are not yours to turn. If you find one false, say at which input.
  Laid BY PROGRAM, IN A SANDBOX (cutbox-rows.mjs): the forced cells as the released guide's own fill.sh prints them over the translation dcbbb5623bb77fcc… (all of the seat's roots in one cut). By AI agents, Wed Nov 11 2026. No macro, syntax, notation, axiom, sorry.
-/
import Derived.Test.YtlpjfoijjlmgeaaGreatDoorChecked
import GoSem.Claim
import GoSem.ClaimJoined
import GoSem.ClaimMapViews
import Derived.JoinedTies
import Derived.KernelRfl
namespace Go.Proofs.YtlpjfoijjlmgeaaGreatDoor
/- THE CELL 'sum', in the pinned program and in every row, IS THE sha256 OF THE DUMP (.gsa) THAT YtlpjfoijjlmgeaaGreatDoorProg.lean LOADS. Nothing in Lean hashes anything: it is a label: what it is worth is what the hold of that sum in a sandbox is worth. -/
noncomputable def Tryz.pinned : Pinned := { name := "ytlpjfoijjlmgeaagreatdoor", sum := "dcbbb5623bb77fccafc766980917de24ad31b3c3dadbe4fa03beea2a58960cbb", checked := Tryz.checked }
namespace Rows
def none {H : Type} : Left H := { results := [], args := [] }

/- WHAT THE LISTED PACKAGE-LEVEL VARIABLES READ AS WHEN THE CALL BEGINS. Each datum BY PROGRAM (the guide's laid-datum.mjs) off the statement by which the dump's own 'gosem.cut.vars' lays the variable. In a bare row this is a premise. The card (YtlpjfoijjlmgeaaGreatDoorCards.lean) ties it to the program's text. -/
def laid_downspout_trace_steps {H : Type} : DataW H := .iface "func table" (.agg [.nil, .iface "func" (.lit (.string [100, 111, 119, 110, 115, 112, 111, 117, 116, 47, 116, 114, 97, 99, 101, 46, 115, 116, 101, 112, 115, 36, 49])), .iface "func" (.lit (.string [100, 111, 119, 110, 115, 112, 111, 117, 116, 47, 116, 114, 97, 99, 101, 46, 115, 116, 101, 112, 115, 36, 50])), .iface "func" (.lit (.string [100, 111, 119, 110, 115, 112, 111, 117, 116, 47, 116, 114, 97, 99, 101, 46, 115, 116, 101, 112, 115, 36, 51])), .iface "func" (.lit (.string [100, 111, 119, 110, 115, 112, 111, 117, 116, 47, 116, 114, 97, 99, 101, 46, 115, 116, 101, 112, 115, 36, 52])), .iface "func" (.lit (.string [100, 111, 119, 110, 115, 112, 111, 117, 116, 47, 116, 114, 97, 99, 101, 46, 98, 97, 99, 107])), .iface "func" (.lit (.string [100, 111, 119, 110, 115, 112, 111, 117, 116, 47, 116, 114, 97, 99, 101, 46, 115, 116, 101, 112, 115, 36, 53]))])

/-- 'downspoutlaw07.TraceNeeds': WHATEVER THE INPUT: true; the input reads as it did. -/
def traceNeedsSpec : ChangeSpec := { name := "traceNeeds", fn := fun _ => fun
  | [d1, d2, d3] => { results := [.lit (.bool true)], args := [d1, d2, d3] }
  | _ => none }
def traceNeedsRow : OpenClaim := { program := "ytlpjfoijjlmgeaagreatdoor", sum := "dcbbb5623bb77fccafc766980917de24ad31b3c3dadbe4fa03beea2a58960cbb", func := "downspout/downspoutlaw07.TraceNeeds", spec := "traceNeeds", unfollowed := true, recurses := true, named := ["downspout/trace.steps"], apart := false, laid := [("downspout/trace.steps", laid_downspout_trace_steps)] }
def TraceNeedsSaid : Prop := traceNeedsRow.holds Tryz.pinned (OpenSpec.ofChange traceNeedsSpec)

/-- ITS FALSE NEIGHBOUR: 'it returns false'. Refute it at one input. -/
def traceNeedsWrong : ChangeSpec := { name := "traceNeeds", fn := fun _ => fun
  | [d1, d2, d3] => { results := [.lit (.bool false)], args := [d1, d2, d3] }
  | _ => none }
def TraceNeedsWrongFalsely : Prop := traceNeedsRow.holds Tryz.pinned (OpenSpec.ofChange traceNeedsWrong)

/-- 'downspoutlaw07.TraceReads': WHATEVER THE INPUT: true; the input reads as it did. -/
def traceReadsSpec : ChangeSpec := { name := "traceReads", fn := fun _ => fun
  | [d1, d2, d3] => { results := [.lit (.bool true)], args := [d1, d2, d3] }
  | _ => none }
def traceReadsRow : OpenClaim := { program := "ytlpjfoijjlmgeaagreatdoor", sum := "dcbbb5623bb77fccafc766980917de24ad31b3c3dadbe4fa03beea2a58960cbb", func := "downspout/downspoutlaw07.TraceReads", spec := "traceReads", inPlace := ["internal/bytealg.abigen_runtime_cmpstring"], unfollowed := true, recurses := true, named := ["downspout/trace.steps"], apart := false, laid := [("downspout/trace.steps", laid_downspout_trace_steps)] }
def TraceReadsSaid : Prop := traceReadsRow.holds Tryz.pinned (OpenSpec.ofChange traceReadsSpec)

/-- ITS FALSE NEIGHBOUR: 'it returns false'. Refute it at one input. -/
def traceReadsWrong : ChangeSpec := { name := "traceReads", fn := fun _ => fun
  | [d1, d2, d3] => { results := [.lit (.bool false)], args := [d1, d2, d3] }
  | _ => none }
def TraceReadsWrongFalsely : Prop := traceReadsRow.holds Tryz.pinned (OpenSpec.ofChange traceReadsWrong)

/- THE SECOND FORM. 'bulk': how many values and letters a reading holds, each counted each time it is reached (what is shared counts as often as it is met; a slice's spare places count too). A statement '..UptoSaid' is the law's where the arguments, and the package variables that the reading takes, are together of bulk at most 1048576: NARROWER than '..Said'. Prove '..Said' where nothing that the law and all that it calls make is longer than what came in: it says more and counts as full. Else prove '..UptoSaid'. A law counts once. -/
mutual
def uptoBulk {H : Type} : DataW H → Nat
  | .lit (.string bytes) => bytes.length + 1
  | .lit _ => 1
  | .nil => 1
  | .ptr d => uptoBulk d + 1
  | .slice elems spare => uptoBulkAll elems + uptoBulkAll spare + 1
  | .agg parts => uptoBulkAll parts + 1
  | .iface _ d => uptoBulk d + 1
  | .map entries => uptoBulkEntries entries + 1
  | .held _ => 1
def uptoBulkAll {H : Type} : List (DataW H) → Nat
  | [] => 0
  | d :: r => uptoBulk d + uptoBulkAll r
def uptoBulkEntries {H : Type} : List (Lit × DataW H) → Nat
  | [] => 0
  | x :: r => uptoBulkEntry x + uptoBulkEntries r
def uptoBulkEntry {H : Type} : Lit × DataW H → Nat
  | (.string bytes, d) => bytes.length + uptoBulk d + 1
  | (_, d) => uptoBulk d + 1
 end
def uptoSmall : (H : Type) → List (DataW H) → Bool := fun _ ds => decide (uptoBulkAll ds ≤ 1048576)
def OpenSpec.upto (s : _root_.Go.ChangeSpec) : _root_.Go.OpenSpec := { _root_.Go.OpenSpec.ofChange s with cond := some uptoSmall }

/-- 'downspoutlaw07.TraceNeeds', WHERE WHAT IT READS IS OF BULK AT MOST 1048576: true; the input reads as it did. -/
def traceNeedsUptoRow : OpenClaim := { program := "ytlpjfoijjlmgeaagreatdoor", sum := "dcbbb5623bb77fccafc766980917de24ad31b3c3dadbe4fa03beea2a58960cbb", func := "downspout/downspoutlaw07.TraceNeeds", spec := "traceNeeds", unfollowed := true, recurses := true, named := ["downspout/trace.steps"], apart := false, laid := [("downspout/trace.steps", laid_downspout_trace_steps)], narrowed := true }
def TraceNeedsUptoSaid : Prop := traceNeedsUptoRow.holds Tryz.pinned (OpenSpec.upto traceNeedsSpec)

/-- 'downspoutlaw07.TraceReads', WHERE WHAT IT READS IS OF BULK AT MOST 1048576: true; the input reads as it did. -/
def traceReadsUptoRow : OpenClaim := { program := "ytlpjfoijjlmgeaagreatdoor", sum := "dcbbb5623bb77fccafc766980917de24ad31b3c3dadbe4fa03beea2a58960cbb", func := "downspout/downspoutlaw07.TraceReads", spec := "traceReads", inPlace := ["internal/bytealg.abigen_runtime_cmpstring"], unfollowed := true, recurses := true, named := ["downspout/trace.steps"], apart := false, laid := [("downspout/trace.steps", laid_downspout_trace_steps)], narrowed := true }
def TraceReadsUptoSaid : Prop := traceReadsUptoRow.holds Tryz.pinned (OpenSpec.upto traceReadsSpec)

end Rows
end Go.Proofs.YtlpjfoijjlmgeaaGreatDoor
