/-
  DERIVED. GIVEN WITH THE SEED: THE CARDS: each row of YtlpjfoijjlmgeaaGreatDoorRows.lean that lists a variable, with what it lists TIED to the program's text (the seventh form; the later family's looks); each row that meets fmt, with fmt's text TOLD by the authors' own Lean function (tested against real Go, not proved from fmt's source: count such statements apart). THE CARD IS WHAT COUNTS. Prove the row's statement (the work); the ties are given (YtlpjfoijjlmgeaaGreatDoorTie.lean); close each card by the builder's one call (the guide's Derived/Test/ToyasCard.lean, 'card_holds'). Laid BY PROGRAM, IN A SANDBOX (cutbox-door.mjs). By AI agents, Wed Nov 11 2026. No macro, syntax, notation, axiom, sorry.
-/
import Derived.Test.YtlpjfoijjlmgeaaGreatDoorRows
import GoSem.ClaimSeven
namespace Go.Proofs.YtlpjfoijjlmgeaaGreatDoor
namespace Rows

/-- THE TIED CARD OF 'downspoutlaw07.TraceNeeds'. -/
def traceNeedsCard : Claim7 := { stood := { row := traceNeedsRow, standIns := [], harness := (true, "939bb16bfef6edbe313411f3378a6862f2a6f7837194bda8ff32faca946058e1"), looks := false }, kinds := [], alts := [], laidByText := true, laidKinds := [.funcs], laidTests := true, laidLooks := .later }
def TraceNeedsCardSaid : Prop := Claim7.holds Tryz.pinned (.plain (OpenSpec.ofChange traceNeedsSpec)) traceNeedsCard

/-- THE TIED CARD OF 'downspoutlaw07.TraceReads'. -/
def traceReadsCard : Claim7 := { stood := { row := traceReadsRow, standIns := [], harness := (true, "939bb16bfef6edbe313411f3378a6862f2a6f7837194bda8ff32faca946058e1"), looks := false }, kinds := [], alts := [], laidByText := true, laidKinds := [.funcs], laidTests := true, laidLooks := .later }
def TraceReadsCardSaid : Prop := Claim7.holds Tryz.pinned (.plain (OpenSpec.ofChange traceReadsSpec)) traceReadsCard

/-- THE SECOND FORM's CARD OF 'downspoutlaw07.TraceNeeds'. -/
def traceNeedsUptoCard : Claim7 := { stood := { row := traceNeedsUptoRow, standIns := [], harness := (true, "939bb16bfef6edbe313411f3378a6862f2a6f7837194bda8ff32faca946058e1"), looks := false }, kinds := [], alts := [], laidByText := true, laidKinds := [.funcs], laidTests := true, laidLooks := .later }
def TraceNeedsUptoCardSaid : Prop := Claim7.holds Tryz.pinned (.plain (OpenSpec.upto traceNeedsSpec)) traceNeedsUptoCard

/-- THE SECOND FORM's CARD OF 'downspoutlaw07.TraceReads'. -/
def traceReadsUptoCard : Claim7 := { stood := { row := traceReadsUptoRow, standIns := [], harness := (true, "939bb16bfef6edbe313411f3378a6862f2a6f7837194bda8ff32faca946058e1"), looks := false }, kinds := [], alts := [], laidByText := true, laidKinds := [.funcs], laidTests := true, laidLooks := .later }
def TraceReadsUptoCardSaid : Prop := Claim7.holds Tryz.pinned (.plain (OpenSpec.upto traceReadsSpec)) traceReadsUptoCard
end Rows
end Go.Proofs.YtlpjfoijjlmgeaaGreatDoor
