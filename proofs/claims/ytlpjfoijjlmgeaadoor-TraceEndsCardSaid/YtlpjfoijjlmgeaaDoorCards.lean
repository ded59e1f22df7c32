/-
  DERIVED. GIVEN WITH THE SEED: THE CARDS: each row of YtlpjfoijjlmgeaaDoorRows.lean that lists a variable, with what it lists TIED to the program's text (the seventh form; the later family's looks); each row that meets fmt, with fmt's text TOLD by the authors' own Lean function (tested against real Go, not proved from fmt's source: count such statements apart). THE CARD IS WHAT COUNTS. Prove the row's statement (the work); the ties are given (YtlpjfoijjlmgeaaDoorTie.lean); close each card by the builder's one call (the guide's Derived/Test/ToyasCard.lean, 'card_holds'). Laid BY PROGRAM, IN A SANDBOX (cutbox-door.mjs). By AI agents, Wed Nov 11 2026. No macro, syntax, notation, axiom, sorry.
-/
import Derived.Test.YtlpjfoijjlmgeaaDoorRows
import GoSem.ClaimSeven
namespace Go.Proofs.YtlpjfoijjlmgeaaDoor
namespace Rows

/-- THE TIED CARD OF 'downspoutlaw07.TraceMatchesReference'. -/
def traceMatchesReferenceCard : Claim7 := { stood := { row := traceMatchesReferenceRow, standIns := [], harness := (true, "ef8ee46d0cbf33a3422f41d9a3ad2d8e8688fb391aa7a6e33a7fc017554fe74a"), looks := false }, kinds := [], alts := [], laidByText := true, laidKinds := [.funcs], laidTests := true, laidLooks := .later }
def TraceMatchesReferenceCardSaid : Prop := Claim7.holds Tryd.pinned (.plain (OpenSpec.ofChange traceMatchesReferenceSpec)) traceMatchesReferenceCard

/-- THE TIED CARD OF 'downspoutlaw07.TraceParts'. -/
def tracePartsCard : Claim7 := { stood := { row := tracePartsRow, standIns := [], harness := (true, "ef8ee46d0cbf33a3422f41d9a3ad2d8e8688fb391aa7a6e33a7fc017554fe74a"), looks := false }, kinds := [], alts := [], laidByText := true, laidKinds := [.funcs], laidTests := true, laidLooks := .later }
def TracePartsCardSaid : Prop := Claim7.holds Tryd.pinned (.plain (OpenSpec.ofChange tracePartsSpec)) tracePartsCard

/-- THE TIED CARD OF 'downspoutlaw07.TraceSpans'. -/
def traceSpansCard : Claim7 := { stood := { row := traceSpansRow, standIns := [], harness := (true, "ef8ee46d0cbf33a3422f41d9a3ad2d8e8688fb391aa7a6e33a7fc017554fe74a"), looks := false }, kinds := [], alts := [], laidByText := true, laidKinds := [.funcs], laidTests := true, laidLooks := .later }
def TraceSpansCardSaid : Prop := Claim7.holds Tryd.pinned (.plain (OpenSpec.ofChange traceSpansSpec)) traceSpansCard

/-- THE TIED CARD OF 'downspoutlaw07.TraceBack'. -/
def traceBackCard : Claim7 := { stood := { row := traceBackRow, standIns := [], harness := (true, "ef8ee46d0cbf33a3422f41d9a3ad2d8e8688fb391aa7a6e33a7fc017554fe74a"), looks := false }, kinds := [], alts := [], laidByText := true, laidKinds := [.funcs], laidTests := true, laidLooks := .later }
def TraceBackCardSaid : Prop := Claim7.holds Tryd.pinned (.plain (OpenSpec.ofChange traceBackSpec)) traceBackCard

/-- THE TIED CARD OF 'downspoutlaw07.TraceEnds'. -/
def traceEndsCard : Claim7 := { stood := { row := traceEndsRow, standIns := [], harness := (true, "ef8ee46d0cbf33a3422f41d9a3ad2d8e8688fb391aa7a6e33a7fc017554fe74a"), looks := false }, kinds := [], alts := [], laidByText := true, laidKinds := [.funcs], laidTests := true, laidLooks := .later }
def TraceEndsCardSaid : Prop := Claim7.holds Tryd.pinned (.plain (OpenSpec.ofChange traceEndsSpec)) traceEndsCard

/-- THE SECOND FORM's CARD OF 'downspoutlaw07.TraceMatchesReference'. -/
def traceMatchesReferenceUptoCard : Claim7 := { stood := { row := traceMatchesReferenceUptoRow, standIns := [], harness := (true, "ef8ee46d0cbf33a3422f41d9a3ad2d8e8688fb391aa7a6e33a7fc017554fe74a"), looks := false }, kinds := [], alts := [], laidByText := true, laidKinds := [.funcs], laidTests := true, laidLooks := .later }
def TraceMatchesReferenceUptoCardSaid : Prop := Claim7.holds Tryd.pinned (.plain (OpenSpec.upto traceMatchesReferenceSpec)) traceMatchesReferenceUptoCard

/-- THE SECOND FORM's CARD OF 'downspoutlaw07.TraceParts'. -/
def tracePartsUptoCard : Claim7 := { stood := { row := tracePartsUptoRow, standIns := [], harness := (true, "ef8ee46d0cbf33a3422f41d9a3ad2d8e8688fb391aa7a6e33a7fc017554fe74a"), looks := false }, kinds := [], alts := [], laidByText := true, laidKinds := [.funcs], laidTests := true, laidLooks := .later }
def TracePartsUptoCardSaid : Prop := Claim7.holds Tryd.pinned (.plain (OpenSpec.upto tracePartsSpec)) tracePartsUptoCard

/-- THE SECOND FORM's CARD OF 'downspoutlaw07.TraceSpans'. -/
def traceSpansUptoCard : Claim7 := { stood := { row := traceSpansUptoRow, standIns := [], harness := (true, "ef8ee46d0cbf33a3422f41d9a3ad2d8e8688fb391aa7a6e33a7fc017554fe74a"), looks := false }, kinds := [], alts := [], laidByText := true, laidKinds := [.funcs], laidTests := true, laidLooks := .later }
def TraceSpansUptoCardSaid : Prop := Claim7.holds Tryd.pinned (.plain (OpenSpec.upto traceSpansSpec)) traceSpansUptoCard

/-- THE SECOND FORM's CARD OF 'downspoutlaw07.TraceBack'. -/
def traceBackUptoCard : Claim7 := { stood := { row := traceBackUptoRow, standIns := [], harness := (true, "ef8ee46d0cbf33a3422f41d9a3ad2d8e8688fb391aa7a6e33a7fc017554fe74a"), looks := false }, kinds := [], alts := [], laidByText := true, laidKinds := [.funcs], laidTests := true, laidLooks := .later }
def TraceBackUptoCardSaid : Prop := Claim7.holds Tryd.pinned (.plain (OpenSpec.upto traceBackSpec)) traceBackUptoCard

/-- THE SECOND FORM's CARD OF 'downspoutlaw07.TraceEnds'. -/
def traceEndsUptoCard : Claim7 := { stood := { row := traceEndsUptoRow, standIns := [], harness := (true, "ef8ee46d0cbf33a3422f41d9a3ad2d8e8688fb391aa7a6e33a7fc017554fe74a"), looks := false }, kinds := [], alts := [], laidByText := true, laidKinds := [.funcs], laidTests := true, laidLooks := .later }
def TraceEndsUptoCardSaid : Prop := Claim7.holds Tryd.pinned (.plain (OpenSpec.upto traceEndsSpec)) traceEndsUptoCard
end Rows
end Go.Proofs.YtlpjfoijjlmgeaaDoor
