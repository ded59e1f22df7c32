/-
  NARROWER THAN 'FOR EVERY INPUT', by the rows' own cells (each row's printed sentence says how): TraceMatchesReference: laid · TraceParts: laid · TraceSpans: laid · TraceBack: laid · TraceEnds: laid.
  DERIVED. THE GIVEN ROWS OF THIS SEAT. 5 by the template 'for every input the law returns true; each argument reads behind the call as it read before'; 0 by the template 'total and deterministic' (their statements: YtlpjfoijjlmgeaaDoorTotals.lean).
  GIVEN WITH THE SEED: the statements are not yours to turn. If you find one false, say at which input.
  Laid BY PROGRAM, IN A SANDBOX (cutbox-rows.mjs): the forced cells as the released guide's own fill.sh prints them over the translation b7563f95d9e8ef62… (all of the seat's roots in one cut). By AI agents, Wed Nov 11 2026. No macro, syntax, notation, axiom, sorry.
-/
import Derived.Test.YtlpjfoijjlmgeaaDoorChecked
import GoSem.Claim
import GoSem.ClaimJoined
import GoSem.ClaimMapViews
import Derived.JoinedTies
import Derived.KernelRfl
namespace Go.Proofs.YtlpjfoijjlmgeaaDoor
/- THE CELL 'sum', in the pinned program and in every row, IS THE sha256 OF THE DUMP (.gsa) THAT YtlpjfoijjlmgeaaDoorProg.lean LOADS. Nothing in Lean hashes anything: it is a label: what it is worth is what the hold of that sum in a sandbox is worth. -/
noncomputable def Tryd.pinned : Pinned := { name := "ytlpjfoijjlmgeaadoor", sum := "b7563f95d9e8ef62968ffbd548ad90ec99669063726535779a9d4ffbbc73c50a", checked := Tryd.checked }
namespace Rows
def none {H : Type} : Left H := { results := [], args := [] }

/- WHAT THE LISTED PACKAGE-LEVEL VARIABLES READ AS WHEN THE CALL BEGINS. Each datum BY PROGRAM (the guide's laid-datum.mjs) off the statement by which the dump's own 'gosem.cut.vars' lays the variable. In a bare row this is a premise. The card (YtlpjfoijjlmgeaaDoorCards.lean) ties it to the program's text. -/
def laid_downspout_trace_steps {H : Type} : DataW H := .iface "func table" (.agg [.nil, .iface "func" (.lit (.string [100, 111, 119, 110, 115, 112, 111, 117, 116, 47, 116, 114, 97, 99, 101, 46, 115, 116, 101, 112, 115, 36, 49])), .iface "func" (.lit (.string [100, 111, 119, 110, 115, 112, 111, 117, 116, 47, 116, 114, 97, 99, 101, 46, 115, 116, 101, 112, 115, 36, 50])), .iface "func" (.lit (.string [100, 111, 119, 110, 115, 112, 111, 117, 116, 47, 116, 114, 97, 99, 101, 46, 115, 116, 101, 112, 115, 36, 51])), .iface "func" (.lit (.string [100, 111, 119, 110, 115, 112, 111, 117, 116, 47, 116, 114, 97, 99, 101, 46, 115, 116, 101, 112, 115, 36, 52])), .iface "func" (.lit (.string [100, 111, 119, 110, 115, 112, 111, 117, 116, 47, 116, 114, 97, 99, 101, 46, 98, 97, 99, 107])), .iface "func" (.lit (.string [100, 111, 119, 110, 115, 112, 111, 117, 116, 47, 116, 114, 97, 99, 101, 46, 115, 116, 101, 112, 115, 36, 53]))])

/-- 'downspoutlaw07.TraceMatchesReference': WHATEVER THE INPUT: true; the input reads as it did. -/
def traceMatchesReferenceSpec : ChangeSpec := { name := "traceMatchesReference", fn := fun _ => fun
  | [d1, d2, d3] => { results := [.lit (.bool true)], args := [d1, d2, d3] }
  | _ => none }
def traceMatchesReferenceRow : OpenClaim := { program := "ytlpjfoijjlmgeaadoor", sum := "b7563f95d9e8ef62968ffbd548ad90ec99669063726535779a9d4ffbbc73c50a", func := "downspout/downspoutlaw07.TraceMatchesReference", spec := "traceMatchesReference", unfollowed := true, recurses := true, named := ["downspout/trace.steps"], apart := false, laid := [("downspout/trace.steps", laid_downspout_trace_steps)] }
def TraceMatchesReferenceSaid : Prop := traceMatchesReferenceRow.holds Tryd.pinned (OpenSpec.ofChange traceMatchesReferenceSpec)

/-- ITS FALSE NEIGHBOUR: 'it returns false'. Refute it at one input. -/
def traceMatchesReferenceWrong : ChangeSpec := { name := "traceMatchesReference", fn := fun _ => fun
  | [d1, d2, d3] => { results := [.lit (.bool false)], args := [d1, d2, d3] }
  | _ => none }
def TraceMatchesReferenceWrongFalsely : Prop := traceMatchesReferenceRow.holds Tryd.pinned (OpenSpec.ofChange traceMatchesReferenceWrong)

/-- 'downspoutlaw07.TraceParts': WHATEVER THE INPUT: true; the input reads as it did. -/
def tracePartsSpec : ChangeSpec := { name := "traceParts", fn := fun _ => fun
  | [d1, d2, d3] => { results := [.lit (.bool true)], args := [d1, d2, d3] }
  | _ => none }
def tracePartsRow : OpenClaim := { program := "ytlpjfoijjlmgeaadoor", sum := "b7563f95d9e8ef62968ffbd548ad90ec99669063726535779a9d4ffbbc73c50a", func := "downspout/downspoutlaw07.TraceParts", spec := "traceParts", unfollowed := true, recurses := true, named := ["downspout/trace.steps"], apart := false, laid := [("downspout/trace.steps", laid_downspout_trace_steps)] }
def TracePartsSaid : Prop := tracePartsRow.holds Tryd.pinned (OpenSpec.ofChange tracePartsSpec)

/-- ITS FALSE NEIGHBOUR: 'it returns false'. Refute it at one input. -/
def tracePartsWrong : ChangeSpec := { name := "traceParts", fn := fun _ => fun
  | [d1, d2, d3] => { results := [.lit (.bool false)], args := [d1, d2, d3] }
  | _ => none }
def TracePartsWrongFalsely : Prop := tracePartsRow.holds Tryd.pinned (OpenSpec.ofChange tracePartsWrong)

/-- 'downspoutlaw07.TraceSpans': WHATEVER THE INPUT: true; the input reads as it did. -/
def traceSpansSpec : ChangeSpec := { name := "traceSpans", fn := fun _ => fun
  | [d1, d2, d3] => { results := [.lit (.bool true)], args := [d1, d2, d3] }
  | _ => none }
def traceSpansRow : OpenClaim := { program := "ytlpjfoijjlmgeaadoor", sum := "b7563f95d9e8ef62968ffbd548ad90ec99669063726535779a9d4ffbbc73c50a", func := "downspout/downspoutlaw07.TraceSpans", spec := "traceSpans", unfollowed := true, recurses := true, named := ["downspout/trace.steps"], apart := false, laid := [("downspout/trace.steps", laid_downspout_trace_steps)] }
def TraceSpansSaid : Prop := traceSpansRow.holds Tryd.pinned (OpenSpec.ofChange traceSpansSpec)

/-- ITS FALSE NEIGHBOUR: 'it returns false'. Refute it at one input. -/
def traceSpansWrong : ChangeSpec := { name := "traceSpans", fn := fun _ => fun
  | [d1, d2, d3] => { results := [.lit (.bool false)], args := [d1, d2, d3] }
  | _ => none }
def TraceSpansWrongFalsely : Prop := traceSpansRow.holds Tryd.pinned (OpenSpec.ofChange traceSpansWrong)

/-- 'downspoutlaw07.TraceBack': WHATEVER THE INPUT: true; the input reads as it did. -/
def traceBackSpec : ChangeSpec := { name := "traceBack", fn := fun _ => fun
  | [d1, d2] => { results := [.lit (.bool true)], args := [d1, d2] }
  | _ => none }
def traceBackRow : OpenClaim := { program := "ytlpjfoijjlmgeaadoor", sum := "b7563f95d9e8ef62968ffbd548ad90ec99669063726535779a9d4ffbbc73c50a", func := "downspout/downspoutlaw07.TraceBack", spec := "traceBack", unfollowed := true, recurses := true, named := ["downspout/trace.steps"], apart := false, laid := [("downspout/trace.steps", laid_downspout_trace_steps)] }
def TraceBackSaid : Prop := traceBackRow.holds Tryd.pinned (OpenSpec.ofChange traceBackSpec)

/-- ITS FALSE NEIGHBOUR: 'it returns false'. Refute it at one input. -/
def traceBackWrong : ChangeSpec := { name := "traceBack", fn := fun _ => fun
  | [d1, d2] => { results := [.lit (.bool false)], args := [d1, d2] }
  | _ => none }
def TraceBackWrongFalsely : Prop := traceBackRow.holds Tryd.pinned (OpenSpec.ofChange traceBackWrong)

/-- 'downspoutlaw07.TraceEnds': WHATEVER THE INPUT: true; the input reads as it did. -/
def traceEndsSpec : ChangeSpec := { name := "traceEnds", fn := fun _ => fun
  | [d1, d2, d3] => { results := [.lit (.bool true)], args := [d1, d2, d3] }
  | _ => none }
def traceEndsRow : OpenClaim := { program := "ytlpjfoijjlmgeaadoor", sum := "b7563f95d9e8ef62968ffbd548ad90ec99669063726535779a9d4ffbbc73c50a", func := "downspout/downspoutlaw07.TraceEnds", spec := "traceEnds", unfollowed := true, recurses := true, named := ["downspout/trace.steps"], apart := false, laid := [("downspout/trace.steps", laid_downspout_trace_steps)] }
def TraceEndsSaid : Prop := traceEndsRow.holds Tryd.pinned (OpenSpec.ofChange traceEndsSpec)

/-- ITS FALSE NEIGHBOUR: 'it returns false'. Refute it at one input. -/
def traceEndsWrong : ChangeSpec := { name := "traceEnds", fn := fun _ => fun
  | [d1, d2, d3] => { results := [.lit (.bool false)], args := [d1, d2, d3] }
  | _ => none }
def TraceEndsWrongFalsely : Prop := traceEndsRow.holds Tryd.pinned (OpenSpec.ofChange traceEndsWrong)

/- THE SECOND FORM. 'bulk': how many values and letters a reading holds, each counted each time it is reached (what is shared counts as often as it is met; a slice's spare places count too). A statement '..UptoSaid' is the law's where the arguments, and the package variables that the reading takes, are together of bulk at most 1048576: NARROWER than '..Said'. Prove '..Said' where nothing that the law and all that it calls make is longer than what came in: it says more and counts as full. Else prove '..UptoSaid'. A law counts once. -/
mutual
def uptoBulk {H : Type} : DataW H → Nat
  | .lit (.string bytes) => bytes.length + 1
  | .lit _ => 1
  | .nil => 1
  | .ptr d => uptoBulk d + 1
  | .slice elems spare => uptoBulkAll elems + uptoBulkAll spare + 1
  | .agg parts => uptoBulkAll parts + 1
  | .iface _ d => uptoBulk d + 1
  | .map entries => uptoBulkEntries entries + 1
  | .held _ => 1
def uptoBulkAll {H : Type} : List (DataW H) → Nat
  | [] => 0
  | d :: r => uptoBulk d + uptoBulkAll r
def uptoBulkEntries {H : Type} : List (Lit × DataW H) → Nat
  | [] => 0
  | x :: r => uptoBulkEntry x + uptoBulkEntries r
def uptoBulkEntry {H : Type} : Lit × DataW H → Nat
  | (.string bytes, d) => bytes.length + uptoBulk d + 1
  | (_, d) => uptoBulk d + 1
 end
def uptoSmall : (H : Type) → List (DataW H) → Bool := fun _ ds => decide (uptoBulkAll ds ≤ 1048576)
def OpenSpec.upto (s : _root_.Go.ChangeSpec) : _root_.Go.OpenSpec := { _root_.Go.OpenSpec.ofChange s with cond := some uptoSmall }

/-- 'downspoutlaw07.TraceMatchesReference', WHERE WHAT IT READS IS OF BULK AT MOST 1048576: true; the input reads as it did. -/
def traceMatchesReferenceUptoRow : OpenClaim := { program := "ytlpjfoijjlmgeaadoor", sum := "b7563f95d9e8ef62968ffbd548ad90ec99669063726535779a9d4ffbbc73c50a", func := "downspout/downspoutlaw07.TraceMatchesReference", spec := "traceMatchesReference", unfollowed := true, recurses := true, named := ["downspout/trace.steps"], apart := false, laid := [("downspout/trace.steps", laid_downspout_trace_steps)], narrowed := true }
def TraceMatchesReferenceUptoSaid : Prop := traceMatchesReferenceUptoRow.holds Tryd.pinned (OpenSpec.upto traceMatchesReferenceSpec)

/-- 'downspoutlaw07.TraceParts', WHERE WHAT IT READS IS OF BULK AT MOST 1048576: true; the input reads as it did. -/
def tracePartsUptoRow : OpenClaim := { program := "ytlpjfoijjlmgeaadoor", sum := "b7563f95d9e8ef62968ffbd548ad90ec99669063726535779a9d4ffbbc73c50a", func := "downspout/downspoutlaw07.TraceParts", spec := "traceParts", unfollowed := true, recurses := true, named := ["downspout/trace.steps"], apart := false, laid := [("downspout/trace.steps", laid_downspout_trace_steps)], narrowed := true }
def TracePartsUptoSaid : Prop := tracePartsUptoRow.holds Tryd.pinned (OpenSpec.upto tracePartsSpec)

/-- 'downspoutlaw07.TraceSpans', WHERE WHAT IT READS IS OF BULK AT MOST 1048576: true; the input reads as it did. -/
def traceSpansUptoRow : OpenClaim := { program := "ytlpjfoijjlmgeaadoor", sum := "b7563f95d9e8ef62968ffbd548ad90ec99669063726535779a9d4ffbbc73c50a", func := "downspout/downspoutlaw07.TraceSpans", spec := "traceSpans", unfollowed := true, recurses := true, named := ["downspout/trace.steps"], apart := false, laid := [("downspout/trace.steps", laid_downspout_trace_steps)], narrowed := true }
def TraceSpansUptoSaid : Prop := traceSpansUptoRow.holds Tryd.pinned (OpenSpec.upto traceSpansSpec)

/-- 'downspoutlaw07.TraceBack', WHERE WHAT IT READS IS OF BULK AT MOST 1048576: true; the input reads as it did. -/
def traceBackUptoRow : OpenClaim := { program := "ytlpjfoijjlmgeaadoor", sum := "b7563f95d9e8ef62968ffbd548ad90ec99669063726535779a9d4ffbbc73c50a", func := "downspout/downspoutlaw07.TraceBack", spec := "traceBack", unfollowed := true, recurses := true, named := ["downspout/trace.steps"], apart := false, laid := [("downspout/trace.steps", laid_downspout_trace_steps)], narrowed := true }
def TraceBackUptoSaid : Prop := traceBackUptoRow.holds Tryd.pinned (OpenSpec.upto traceBackSpec)

/-- 'downspoutlaw07.TraceEnds', WHERE WHAT IT READS IS OF BULK AT MOST 1048576: true; the input reads as it did. -/
def traceEndsUptoRow : OpenClaim := { program := "ytlpjfoijjlmgeaadoor", sum := "b7563f95d9e8ef62968ffbd548ad90ec99669063726535779a9d4ffbbc73c50a", func := "downspout/downspoutlaw07.TraceEnds", spec := "traceEnds", unfollowed := true, recurses := true, named := ["downspout/trace.steps"], apart := false, laid := [("downspout/trace.steps", laid_downspout_trace_steps)], narrowed := true }
def TraceEndsUptoSaid : Prop := traceEndsUptoRow.holds Tryd.pinned (OpenSpec.upto traceEndsSpec)

end Rows
end Go.Proofs.YtlpjfoijjlmgeaaDoor
