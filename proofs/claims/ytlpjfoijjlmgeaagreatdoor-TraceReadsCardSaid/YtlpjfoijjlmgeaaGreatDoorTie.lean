/-
  DERIVED. GIVEN WITH THE SEED: THE PROGRAM's TIES (one call each: nine closed facts by the kernel) AND EACH ROW's TIE, after the 31st guide's Derived/Test/Toyas{Tie, Card}.lean. No idea stands in it: it is a product of the set-up. Laid BY PROGRAM, IN A SANDBOX (cutbox-door.mjs). By AI agents, Wed Nov 11 2026. No macro, syntax, notation, axiom, sorry.
-/
import Derived.Test.YtlpjfoijjlmgeaaGreatDoorRows
import Derived.LaidByTextLater
import Derived.SevenTiedAt
import Derived.LaidSub
import Derived.LaidOnce
namespace Go.Proofs.YtlpjfoijjlmgeaaGreatDoor
open Go
set_option maxRecDepth 100000
theorem seatTie1 : Tryz.prog.laidByTextLater [("downspout/trace.steps", Rows.laid_downspout_trace_steps)] [.funcs] true :=
  Program.laidByTextLater_by_one 14 8 2 (by kernel_rfl) (by kernel_rfl) (by kernel_rfl) (by kernel_rfl) (by kernel_rfl) (by kernel_rfl) (fun _ _ => by kernel_rfl)
theorem noOwnUnsafe : Tryz.pinned.checked.prog.headLifts.contains "ownunsafe" = false := by kernel_rfl
theorem tie : Tryz.prog.laidByTextLater [("downspout/trace.steps", Rows.laid_downspout_trace_steps)] [.funcs] true :=
  Program.laidByTextLater.sub seatTie1 ["downspout/trace.steps"] (by kernel_rfl) (by kernel_rfl)
theorem traceNeeds_row_tie : Rows.traceNeedsRow.laidByTextAt .later Tryz.pinned [.funcs] true :=
  OpenClaim.laidByTextAt_later rfl rfl tie noOwnUnsafe
theorem traceReads_row_tie : Rows.traceReadsRow.laidByTextAt .later Tryz.pinned [.funcs] true :=
  OpenClaim.laidByTextAt_later rfl rfl tie noOwnUnsafe
theorem traceNeedsUpto_row_tie : Rows.traceNeedsUptoRow.laidByTextAt .later Tryz.pinned [.funcs] true :=
  OpenClaim.laidByTextAt_later rfl rfl tie noOwnUnsafe
theorem traceReadsUpto_row_tie : Rows.traceReadsUptoRow.laidByTextAt .later Tryz.pinned [.funcs] true :=
  OpenClaim.laidByTextAt_later rfl rfl tie noOwnUnsafe
end Go.Proofs.YtlpjfoijjlmgeaaGreatDoor
