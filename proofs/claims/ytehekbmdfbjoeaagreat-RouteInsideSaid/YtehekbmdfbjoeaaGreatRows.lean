/-
  No cell of these rows narrows 'for every input' (looked for: loops, veiled, ifaces, maps, wideKeys, modest, calm, conditions, laid).
  DERIVED. THE GIVEN ROWS OF THIS SEAT. 8 by the template 'for every input the law returns true; each argument reads behind the call as it read before'; 0 by the template 'total and deterministic' (their statements: YtehekbmdfbjoeaaGreatTotals.lean).
  GIVEN WITH THE SEED: the statements are not yours to turn. If you find one false, say at which input.
  Laid BY PROGRAM, IN A SANDBOX (cutbox-rows.mjs): the forced cells as the released guide's own fill.sh prints them over the translation fa4d8b18c73d58b7… (all of the seat's roots in one cut). By AI agents, Wed Nov 11 2026. No macro, syntax, notation, axiom, sorry.
-/
import Derived.Test.YtehekbmdfbjoeaaGreatChecked
import GoSem.Claim
import GoSem.ClaimJoined
import GoSem.ClaimMapViews
import Derived.JoinedTies
import Derived.KernelRfl
namespace Go.Proofs.YtehekbmdfbjoeaaGreat
/- THE CELL 'sum', in the pinned program and in every row, IS THE sha256 OF THE DUMP (.gsa) THAT YtehekbmdfbjoeaaGreatProg.lean LOADS. Nothing in Lean hashes anything: it is a label: what it is worth is what the hold of that sum in a sandbox is worth. -/
noncomputable def Tryz.pinned : Pinned := { name := "ytehekbmdfbjoeaagreat", sum := "fa4d8b18c73d58b7910806319023c7c25a81ec43cdf12c14ee606462b784070b", checked := Tryz.checked }
namespace Rows
def none {H : Type} : Left H := { results := [], args := [] }

/-- 'downspoutlaw08.RouteMatchesReference': WHATEVER THE INPUT: true; the input reads as it did. -/
def routeMatchesReferenceSpec : ChangeSpec := { name := "routeMatchesReference", fn := fun _ => fun
  | [d1, d2, d3] => { results := [.lit (.bool true)], args := [d1, d2, d3] }
  | _ => none }
def routeMatchesReferenceRow : OpenClaim := { program := "ytehekbmdfbjoeaagreat", sum := "fa4d8b18c73d58b7910806319023c7c25a81ec43cdf12c14ee606462b784070b", func := "downspout/downspoutlaw08.RouteMatchesReference", spec := "routeMatchesReference", unfollowed := true, recurses := true, apart := false }
def RouteMatchesReferenceSaid : Prop := routeMatchesReferenceRow.holds Tryz.pinned (OpenSpec.ofChange routeMatchesReferenceSpec)

/-- ITS FALSE NEIGHBOUR: 'it returns false'. Refute it at one input. -/
def routeMatchesReferenceWrong : ChangeSpec := { name := "routeMatchesReference", fn := fun _ => fun
  | [d1, d2, d3] => { results := [.lit (.bool false)], args := [d1, d2, d3] }
  | _ => none }
def RouteMatchesReferenceWrongFalsely : Prop := routeMatchesReferenceRow.holds Tryz.pinned (OpenSpec.ofChange routeMatchesReferenceWrong)

/-- 'downspoutlaw08.RouteKids': WHATEVER THE INPUT: true; the input reads as it did. -/
def routeKidsSpec : ChangeSpec := { name := "routeKids", fn := fun _ => fun
  | [d1, d2] => { results := [.lit (.bool true)], args := [d1, d2] }
  | _ => none }
def routeKidsRow : OpenClaim := { program := "ytehekbmdfbjoeaagreat", sum := "fa4d8b18c73d58b7910806319023c7c25a81ec43cdf12c14ee606462b784070b", func := "downspout/downspoutlaw08.RouteKids", spec := "routeKids", unfollowed := true, recurses := true, apart := false }
def RouteKidsSaid : Prop := routeKidsRow.holds Tryz.pinned (OpenSpec.ofChange routeKidsSpec)

/-- ITS FALSE NEIGHBOUR: 'it returns false'. Refute it at one input. -/
def routeKidsWrong : ChangeSpec := { name := "routeKids", fn := fun _ => fun
  | [d1, d2] => { results := [.lit (.bool false)], args := [d1, d2] }
  | _ => none }
def RouteKidsWrongFalsely : Prop := routeKidsRow.holds Tryz.pinned (OpenSpec.ofChange routeKidsWrong)

/-- 'downspoutlaw08.RouteFirst': WHATEVER THE INPUT: true; the input reads as it did. -/
def routeFirstSpec : ChangeSpec := { name := "routeFirst", fn := fun _ => fun
  | [d1, d2, d3] => { results := [.lit (.bool true)], args := [d1, d2, d3] }
  | _ => none }
def routeFirstRow : OpenClaim := { program := "ytehekbmdfbjoeaagreat", sum := "fa4d8b18c73d58b7910806319023c7c25a81ec43cdf12c14ee606462b784070b", func := "downspout/downspoutlaw08.RouteFirst", spec := "routeFirst", unfollowed := true, recurses := true, apart := false }
def RouteFirstSaid : Prop := routeFirstRow.holds Tryz.pinned (OpenSpec.ofChange routeFirstSpec)

/-- ITS FALSE NEIGHBOUR: 'it returns false'. Refute it at one input. -/
def routeFirstWrong : ChangeSpec := { name := "routeFirst", fn := fun _ => fun
  | [d1, d2, d3] => { results := [.lit (.bool false)], args := [d1, d2, d3] }
  | _ => none }
def RouteFirstWrongFalsely : Prop := routeFirstRow.holds Tryz.pinned (OpenSpec.ofChange routeFirstWrong)

/-- 'downspoutlaw08.RouteStays': WHATEVER THE INPUT: true; the input reads as it did. -/
def routeStaysSpec : ChangeSpec := { name := "routeStays", fn := fun _ => fun
  | [d1, d2] => { results := [.lit (.bool true)], args := [d1, d2] }
  | _ => none }
def routeStaysRow : OpenClaim := { program := "ytehekbmdfbjoeaagreat", sum := "fa4d8b18c73d58b7910806319023c7c25a81ec43cdf12c14ee606462b784070b", func := "downspout/downspoutlaw08.RouteStays", spec := "routeStays", unfollowed := true, recurses := true, apart := false }
def RouteStaysSaid : Prop := routeStaysRow.holds Tryz.pinned (OpenSpec.ofChange routeStaysSpec)

/-- ITS FALSE NEIGHBOUR: 'it returns false'. Refute it at one input. -/
def routeStaysWrong : ChangeSpec := { name := "routeStays", fn := fun _ => fun
  | [d1, d2] => { results := [.lit (.bool false)], args := [d1, d2] }
  | _ => none }
def RouteStaysWrongFalsely : Prop := routeStaysRow.holds Tryz.pinned (OpenSpec.ofChange routeStaysWrong)

/-- 'downspoutlaw08.RouteParts': WHATEVER THE INPUT: true; the input reads as it did. -/
def routePartsSpec : ChangeSpec := { name := "routeParts", fn := fun _ => fun
  | [d1, d2, d3] => { results := [.lit (.bool true)], args := [d1, d2, d3] }
  | _ => none }
def routePartsRow : OpenClaim := { program := "ytehekbmdfbjoeaagreat", sum := "fa4d8b18c73d58b7910806319023c7c25a81ec43cdf12c14ee606462b784070b", func := "downspout/downspoutlaw08.RouteParts", spec := "routeParts", unfollowed := true, recurses := true, apart := false }
def RoutePartsSaid : Prop := routePartsRow.holds Tryz.pinned (OpenSpec.ofChange routePartsSpec)

/-- ITS FALSE NEIGHBOUR: 'it returns false'. Refute it at one input. -/
def routePartsWrong : ChangeSpec := { name := "routeParts", fn := fun _ => fun
  | [d1, d2, d3] => { results := [.lit (.bool false)], args := [d1, d2, d3] }
  | _ => none }
def RoutePartsWrongFalsely : Prop := routePartsRow.holds Tryz.pinned (OpenSpec.ofChange routePartsWrong)

/-- 'downspoutlaw08.RouteReady': WHATEVER THE INPUT: true; the input reads as it did. -/
def routeReadySpec : ChangeSpec := { name := "routeReady", fn := fun _ => fun
  | [d1, d2, d3] => { results := [.lit (.bool true)], args := [d1, d2, d3] }
  | _ => none }
def routeReadyRow : OpenClaim := { program := "ytehekbmdfbjoeaagreat", sum := "fa4d8b18c73d58b7910806319023c7c25a81ec43cdf12c14ee606462b784070b", func := "downspout/downspoutlaw08.RouteReady", spec := "routeReady", unfollowed := true, recurses := true, apart := false }
def RouteReadySaid : Prop := routeReadyRow.holds Tryz.pinned (OpenSpec.ofChange routeReadySpec)

/-- ITS FALSE NEIGHBOUR: 'it returns false'. Refute it at one input. -/
def routeReadyWrong : ChangeSpec := { name := "routeReady", fn := fun _ => fun
  | [d1, d2, d3] => { results := [.lit (.bool false)], args := [d1, d2, d3] }
  | _ => none }
def RouteReadyWrongFalsely : Prop := routeReadyRow.holds Tryz.pinned (OpenSpec.ofChange routeReadyWrong)

/-- 'downspoutlaw08.RouteFree': WHATEVER THE INPUT: true; the input reads as it did. -/
def routeFreeSpec : ChangeSpec := { name := "routeFree", fn := fun _ => fun
  | [d1, d2, d3] => { results := [.lit (.bool true)], args := [d1, d2, d3] }
  | _ => none }
def routeFreeRow : OpenClaim := { program := "ytehekbmdfbjoeaagreat", sum := "fa4d8b18c73d58b7910806319023c7c25a81ec43cdf12c14ee606462b784070b", func := "downspout/downspoutlaw08.RouteFree", spec := "routeFree", unfollowed := true, recurses := true, apart := false }
def RouteFreeSaid : Prop := routeFreeRow.holds Tryz.pinned (OpenSpec.ofChange routeFreeSpec)

/-- ITS FALSE NEIGHBOUR: 'it returns false'. Refute it at one input. -/
def routeFreeWrong : ChangeSpec := { name := "routeFree", fn := fun _ => fun
  | [d1, d2, d3] => { results := [.lit (.bool false)], args := [d1, d2, d3] }
  | _ => none }
def RouteFreeWrongFalsely : Prop := routeFreeRow.holds Tryz.pinned (OpenSpec.ofChange routeFreeWrong)

/-- 'downspoutlaw08.RouteInside': WHATEVER THE INPUT: true; the input reads as it did. -/
def routeInsideSpec : ChangeSpec := { name := "routeInside", fn := fun _ => fun
  | [d1, d2, d3] => { results := [.lit (.bool true)], args := [d1, d2, d3] }
  | _ => none }
def routeInsideRow : OpenClaim := { program := "ytehekbmdfbjoeaagreat", sum := "fa4d8b18c73d58b7910806319023c7c25a81ec43cdf12c14ee606462b784070b", func := "downspout/downspoutlaw08.RouteInside", spec := "routeInside", unfollowed := true, recurses := true, apart := false }
def RouteInsideSaid : Prop := routeInsideRow.holds Tryz.pinned (OpenSpec.ofChange routeInsideSpec)

/-- ITS FALSE NEIGHBOUR: 'it returns false'. Refute it at one input. -/
def routeInsideWrong : ChangeSpec := { name := "routeInside", fn := fun _ => fun
  | [d1, d2, d3] => { results := [.lit (.bool false)], args := [d1, d2, d3] }
  | _ => none }
def RouteInsideWrongFalsely : Prop := routeInsideRow.holds Tryz.pinned (OpenSpec.ofChange routeInsideWrong)

/- THE SECOND FORM. 'bulk': how many values and letters a reading holds, each counted each time it is reached (what is shared counts as often as it is met; a slice's spare places count too). A statement '..UptoSaid' is the law's where the arguments, and the package variables that the reading takes, are together of bulk at most 1048576: NARROWER than '..Said'. Prove '..Said' where nothing that the law and all that it calls make is longer than what came in: it says more and counts as full. Else prove '..UptoSaid'. A law counts once. -/
mutual
def uptoBulk {H : Type} : DataW H → Nat
  | .lit (.string bytes) => bytes.length + 1
  | .lit _ => 1
  | .nil => 1
  | .ptr d => uptoBulk d + 1
  | .slice elems spare => uptoBulkAll elems + uptoBulkAll spare + 1
  | .agg parts => uptoBulkAll parts + 1
  | .iface _ d => uptoBulk d + 1
  | .map entries => uptoBulkEntries entries + 1
  | .held _ => 1
def uptoBulkAll {H : Type} : List (DataW H) → Nat
  | [] => 0
  | d :: r => uptoBulk d + uptoBulkAll r
def uptoBulkEntries {H : Type} : List (Lit × DataW H) → Nat
  | [] => 0
  | x :: r => uptoBulkEntry x + uptoBulkEntries r
def uptoBulkEntry {H : Type} : Lit × DataW H → Nat
  | (.string bytes, d) => bytes.length + uptoBulk d + 1
  | (_, d) => uptoBulk d + 1
 end
def uptoSmall : (H : Type) → List (DataW H) → Bool := fun _ ds => decide (uptoBulkAll ds ≤ 1048576)
def OpenSpec.upto (s : _root_.Go.ChangeSpec) : _root_.Go.OpenSpec := { _root_.Go.OpenSpec.ofChange s with cond := some uptoSmall }

/-- 'downspoutlaw08.RouteMatchesReference', WHERE WHAT IT READS IS OF BULK AT MOST 1048576: true; the input reads as it did. -/
def routeMatchesReferenceUptoRow : OpenClaim := { program := "ytehekbmdfbjoeaagreat", sum := "fa4d8b18c73d58b7910806319023c7c25a81ec43cdf12c14ee606462b784070b", func := "downspout/downspoutlaw08.RouteMatchesReference", spec := "routeMatchesReference", unfollowed := true, recurses := true, apart := false, narrowed := true }
def RouteMatchesReferenceUptoSaid : Prop := routeMatchesReferenceUptoRow.holds Tryz.pinned (OpenSpec.upto routeMatchesReferenceSpec)

/-- 'downspoutlaw08.RouteKids', WHERE WHAT IT READS IS OF BULK AT MOST 1048576: true; the input reads as it did. -/
def routeKidsUptoRow : OpenClaim := { program := "ytehekbmdfbjoeaagreat", sum := "fa4d8b18c73d58b7910806319023c7c25a81ec43cdf12c14ee606462b784070b", func := "downspout/downspoutlaw08.RouteKids", spec := "routeKids", unfollowed := true, recurses := true, apart := false, narrowed := true }
def RouteKidsUptoSaid : Prop := routeKidsUptoRow.holds Tryz.pinned (OpenSpec.upto routeKidsSpec)

/-- 'downspoutlaw08.RouteFirst', WHERE WHAT IT READS IS OF BULK AT MOST 1048576: true; the input reads as it did. -/
def routeFirstUptoRow : OpenClaim := { program := "ytehekbmdfbjoeaagreat", sum := "fa4d8b18c73d58b7910806319023c7c25a81ec43cdf12c14ee606462b784070b", func := "downspout/downspoutlaw08.RouteFirst", spec := "routeFirst", unfollowed := true, recurses := true, apart := false, narrowed := true }
def RouteFirstUptoSaid : Prop := routeFirstUptoRow.holds Tryz.pinned (OpenSpec.upto routeFirstSpec)

/-- 'downspoutlaw08.RouteStays', WHERE WHAT IT READS IS OF BULK AT MOST 1048576: true; the input reads as it did. -/
def routeStaysUptoRow : OpenClaim := { program := "ytehekbmdfbjoeaagreat", sum := "fa4d8b18c73d58b7910806319023c7c25a81ec43cdf12c14ee606462b784070b", func := "downspout/downspoutlaw08.RouteStays", spec := "routeStays", unfollowed := true, recurses := true, apart := false, narrowed := true }
def RouteStaysUptoSaid : Prop := routeStaysUptoRow.holds Tryz.pinned (OpenSpec.upto routeStaysSpec)

/-- 'downspoutlaw08.RouteParts', WHERE WHAT IT READS IS OF BULK AT MOST 1048576: true; the input reads as it did. -/
def routePartsUptoRow : OpenClaim := { program := "ytehekbmdfbjoeaagreat", sum := "fa4d8b18c73d58b7910806319023c7c25a81ec43cdf12c14ee606462b784070b", func := "downspout/downspoutlaw08.RouteParts", spec := "routeParts", unfollowed := true, recurses := true, apart := false, narrowed := true }
def RoutePartsUptoSaid : Prop := routePartsUptoRow.holds Tryz.pinned (OpenSpec.upto routePartsSpec)

/-- 'downspoutlaw08.RouteReady', WHERE WHAT IT READS IS OF BULK AT MOST 1048576: true; the input reads as it did. -/
def routeReadyUptoRow : OpenClaim := { program := "ytehekbmdfbjoeaagreat", sum := "fa4d8b18c73d58b7910806319023c7c25a81ec43cdf12c14ee606462b784070b", func := "downspout/downspoutlaw08.RouteReady", spec := "routeReady", unfollowed := true, recurses := true, apart := false, narrowed := true }
def RouteReadyUptoSaid : Prop := routeReadyUptoRow.holds Tryz.pinned (OpenSpec.upto routeReadySpec)

/-- 'downspoutlaw08.RouteFree', WHERE WHAT IT READS IS OF BULK AT MOST 1048576: true; the input reads as it did. -/
def routeFreeUptoRow : OpenClaim := { program := "ytehekbmdfbjoeaagreat", sum := "fa4d8b18c73d58b7910806319023c7c25a81ec43cdf12c14ee606462b784070b", func := "downspout/downspoutlaw08.RouteFree", spec := "routeFree", unfollowed := true, recurses := true, apart := false, narrowed := true }
def RouteFreeUptoSaid : Prop := routeFreeUptoRow.holds Tryz.pinned (OpenSpec.upto routeFreeSpec)

/-- 'downspoutlaw08.RouteInside', WHERE WHAT IT READS IS OF BULK AT MOST 1048576: true; the input reads as it did. -/
def routeInsideUptoRow : OpenClaim := { program := "ytehekbmdfbjoeaagreat", sum := "fa4d8b18c73d58b7910806319023c7c25a81ec43cdf12c14ee606462b784070b", func := "downspout/downspoutlaw08.RouteInside", spec := "routeInside", unfollowed := true, recurses := true, apart := false, narrowed := true }
def RouteInsideUptoSaid : Prop := routeInsideUptoRow.holds Tryz.pinned (OpenSpec.upto routeInsideSpec)

end Rows
end Go.Proofs.YtehekbmdfbjoeaaGreat
