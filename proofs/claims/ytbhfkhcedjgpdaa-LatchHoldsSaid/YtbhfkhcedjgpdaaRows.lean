/-
  No cell of these rows narrows 'for every input' (looked for: loops, veiled, ifaces, maps, wideKeys, modest, calm, conditions, laid).
  DERIVED. THE GIVEN ROWS OF THIS SEAT. 9 by the template 'for every input the law returns true; each argument reads behind the call as it read before'; 0 by the template 'total and deterministic' (their statements: YtbhfkhcedjgpdaaTotals.lean).
  GIVEN WITH THE SEED: the statements are not yours to turn. If you find one false, say at which input.
  Laid BY PROGRAM, IN A SANDBOX (cutbox-rows.mjs): the forced cells as the released guide's own fill.sh prints them over the translation 3b28baf2a591e874… (all of the seat's roots in one cut). By AI agents, Wed Nov 11 2026. No macro, syntax, notation, axiom, sorry.
-/
import Derived.Test.YtbhfkhcedjgpdaaChecked
import GoSem.Claim
import GoSem.ClaimJoined
import GoSem.ClaimMapViews
import Derived.JoinedTies
import Derived.KernelRfl
namespace Go.Proofs.Ytbhfkhcedjgpdaa
/- THE CELL 'sum', in the pinned program and in every row, IS THE sha256 OF THE DUMP (.gsa) THAT YtbhfkhcedjgpdaaProg.lean LOADS. Nothing in Lean hashes anything: it is a label: what it is worth is what the hold of that sum in a sandbox is worth. -/
noncomputable def Try.pinned : Pinned := { name := "ytbhfkhcedjgpdaa", sum := "3b28baf2a591e8749ffc47baf2b47d7e211bead0843b6fccff04f55b773031fa", checked := Try.checked }
namespace Rows
def none {H : Type} : Left H := { results := [], args := [] }

/-- 'tontinelaw16.RoutePlays': WHATEVER THE INPUT: true; the input reads as it did. -/
def routePlaysSpec : ChangeSpec := { name := "routePlays", fn := fun _ => fun
  | [d1, d2, d3, d4] => { results := [.lit (.bool true)], args := [d1, d2, d3, d4] }
  | _ => none }
def routePlaysRow : OpenClaim := { program := "ytbhfkhcedjgpdaa", sum := "3b28baf2a591e8749ffc47baf2b47d7e211bead0843b6fccff04f55b773031fa", func := "tontine/tontinelaw16.RoutePlays", spec := "routePlays", apart := false }
def RoutePlaysSaid : Prop := routePlaysRow.holds Try.pinned (OpenSpec.ofChange routePlaysSpec)

/-- ITS FALSE NEIGHBOUR: 'it returns false'. Refute it at one input. -/
def routePlaysWrong : ChangeSpec := { name := "routePlays", fn := fun _ => fun
  | [d1, d2, d3, d4] => { results := [.lit (.bool false)], args := [d1, d2, d3, d4] }
  | _ => none }
def RoutePlaysWrongFalsely : Prop := routePlaysRow.holds Try.pinned (OpenSpec.ofChange routePlaysWrong)

/-- 'tontinelaw16.RouteRounds': WHATEVER THE INPUT: true; the input reads as it did. -/
def routeRoundsSpec : ChangeSpec := { name := "routeRounds", fn := fun _ => fun
  | [d1, d2, d3] => { results := [.lit (.bool true)], args := [d1, d2, d3] }
  | _ => none }
def routeRoundsRow : OpenClaim := { program := "ytbhfkhcedjgpdaa", sum := "3b28baf2a591e8749ffc47baf2b47d7e211bead0843b6fccff04f55b773031fa", func := "tontine/tontinelaw16.RouteRounds", spec := "routeRounds", apart := false }
def RouteRoundsSaid : Prop := routeRoundsRow.holds Try.pinned (OpenSpec.ofChange routeRoundsSpec)

/-- ITS FALSE NEIGHBOUR: 'it returns false'. Refute it at one input. -/
def routeRoundsWrong : ChangeSpec := { name := "routeRounds", fn := fun _ => fun
  | [d1, d2, d3] => { results := [.lit (.bool false)], args := [d1, d2, d3] }
  | _ => none }
def RouteRoundsWrongFalsely : Prop := routeRoundsRow.holds Try.pinned (OpenSpec.ofChange routeRoundsWrong)

/-- 'tontinelaw16.RouteFirst': WHATEVER THE INPUT: true; the input reads as it did. -/
def routeFirstSpec : ChangeSpec := { name := "routeFirst", fn := fun _ => fun
  | [d1, d2] => { results := [.lit (.bool true)], args := [d1, d2] }
  | _ => none }
def routeFirstRow : OpenClaim := { program := "ytbhfkhcedjgpdaa", sum := "3b28baf2a591e8749ffc47baf2b47d7e211bead0843b6fccff04f55b773031fa", func := "tontine/tontinelaw16.RouteFirst", spec := "routeFirst", apart := false }
def RouteFirstSaid : Prop := routeFirstRow.holds Try.pinned (OpenSpec.ofChange routeFirstSpec)

/-- ITS FALSE NEIGHBOUR: 'it returns false'. Refute it at one input. -/
def routeFirstWrong : ChangeSpec := { name := "routeFirst", fn := fun _ => fun
  | [d1, d2] => { results := [.lit (.bool false)], args := [d1, d2] }
  | _ => none }
def RouteFirstWrongFalsely : Prop := routeFirstRow.holds Try.pinned (OpenSpec.ofChange routeFirstWrong)

/-- 'tontinelaw16.RouteApart': WHATEVER THE INPUT: true; the input reads as it did. -/
def routeApartSpec : ChangeSpec := { name := "routeApart", fn := fun _ => fun
  | [d1, d2, d3] => { results := [.lit (.bool true)], args := [d1, d2, d3] }
  | _ => none }
def routeApartRow : OpenClaim := { program := "ytbhfkhcedjgpdaa", sum := "3b28baf2a591e8749ffc47baf2b47d7e211bead0843b6fccff04f55b773031fa", func := "tontine/tontinelaw16.RouteApart", spec := "routeApart", apart := false }
def RouteApartSaid : Prop := routeApartRow.holds Try.pinned (OpenSpec.ofChange routeApartSpec)

/-- ITS FALSE NEIGHBOUR: 'it returns false'. Refute it at one input. -/
def routeApartWrong : ChangeSpec := { name := "routeApart", fn := fun _ => fun
  | [d1, d2, d3] => { results := [.lit (.bool false)], args := [d1, d2, d3] }
  | _ => none }
def RouteApartWrongFalsely : Prop := routeApartRow.holds Try.pinned (OpenSpec.ofChange routeApartWrong)

/-- 'tontinelaw20.CheckFlows': WHATEVER THE INPUT: true; the input reads as it did. -/
def checkFlowsSpec : ChangeSpec := { name := "checkFlows", fn := fun _ => fun
  | [d1, d2, d3] => { results := [.lit (.bool true)], args := [d1, d2, d3] }
  | _ => none }
def checkFlowsRow : OpenClaim := { program := "ytbhfkhcedjgpdaa", sum := "3b28baf2a591e8749ffc47baf2b47d7e211bead0843b6fccff04f55b773031fa", func := "tontine/tontinelaw20.CheckFlows", spec := "checkFlows", inPlace := ["internal/reflectlite.TypeOf"], unfollowed := true, recurses := true, apart := false }
def CheckFlowsSaid : Prop := checkFlowsRow.holds Try.pinned (OpenSpec.ofChange checkFlowsSpec)

/-- ITS FALSE NEIGHBOUR: 'it returns false'. Refute it at one input. -/
def checkFlowsWrong : ChangeSpec := { name := "checkFlows", fn := fun _ => fun
  | [d1, d2, d3] => { results := [.lit (.bool false)], args := [d1, d2, d3] }
  | _ => none }
def CheckFlowsWrongFalsely : Prop := checkFlowsRow.holds Try.pinned (OpenSpec.ofChange checkFlowsWrong)

/-- 'tontinelaw20.CheckPlans': WHATEVER THE INPUT: true; the input reads as it did. -/
def checkPlansSpec : ChangeSpec := { name := "checkPlans", fn := fun _ => fun
  | [d1, d2] => { results := [.lit (.bool true)], args := [d1, d2] }
  | _ => none }
def checkPlansRow : OpenClaim := { program := "ytbhfkhcedjgpdaa", sum := "3b28baf2a591e8749ffc47baf2b47d7e211bead0843b6fccff04f55b773031fa", func := "tontine/tontinelaw20.CheckPlans", spec := "checkPlans", inPlace := ["internal/reflectlite.TypeOf"], unfollowed := true, recurses := true, apart := false }
def CheckPlansSaid : Prop := checkPlansRow.holds Try.pinned (OpenSpec.ofChange checkPlansSpec)

/-- ITS FALSE NEIGHBOUR: 'it returns false'. Refute it at one input. -/
def checkPlansWrong : ChangeSpec := { name := "checkPlans", fn := fun _ => fun
  | [d1, d2] => { results := [.lit (.bool false)], args := [d1, d2] }
  | _ => none }
def CheckPlansWrongFalsely : Prop := checkPlansRow.holds Try.pinned (OpenSpec.ofChange checkPlansWrong)

/-- 'tontinelaw20.CheckLevels': WHATEVER THE INPUT: true; the input reads as it did. -/
def checkLevelsSpec : ChangeSpec := { name := "checkLevels", fn := fun _ => fun
  | [d1, d2, d3] => { results := [.lit (.bool true)], args := [d1, d2, d3] }
  | _ => none }
def checkLevelsRow : OpenClaim := { program := "ytbhfkhcedjgpdaa", sum := "3b28baf2a591e8749ffc47baf2b47d7e211bead0843b6fccff04f55b773031fa", func := "tontine/tontinelaw20.CheckLevels", spec := "checkLevels", inPlace := ["internal/reflectlite.TypeOf"], unfollowed := true, recurses := true, apart := false }
def CheckLevelsSaid : Prop := checkLevelsRow.holds Try.pinned (OpenSpec.ofChange checkLevelsSpec)

/-- ITS FALSE NEIGHBOUR: 'it returns false'. Refute it at one input. -/
def checkLevelsWrong : ChangeSpec := { name := "checkLevels", fn := fun _ => fun
  | [d1, d2, d3] => { results := [.lit (.bool false)], args := [d1, d2, d3] }
  | _ => none }
def CheckLevelsWrongFalsely : Prop := checkLevelsRow.holds Try.pinned (OpenSpec.ofChange checkLevelsWrong)

/-- 'tontinelaw15.LatchHolds': WHATEVER THE INPUT: true; the input reads as it did. -/
def latchHoldsSpec : ChangeSpec := { name := "latchHolds", fn := fun _ => fun
  | [d] => { results := [.lit (.bool true)], args := [d] }
  | _ => none }
def latchHoldsRow : OpenClaim := { program := "ytbhfkhcedjgpdaa", sum := "3b28baf2a591e8749ffc47baf2b47d7e211bead0843b6fccff04f55b773031fa", func := "tontine/tontinelaw15.LatchHolds", spec := "latchHolds", inPlace := ["internal/reflectlite.TypeOf"], unfollowed := true, recurses := true, apart := false }
def LatchHoldsSaid : Prop := latchHoldsRow.holds Try.pinned (OpenSpec.ofChange latchHoldsSpec)

/-- ITS FALSE NEIGHBOUR: 'it returns false'. Refute it at one input. -/
def latchHoldsWrong : ChangeSpec := { name := "latchHolds", fn := fun _ => fun
  | [d] => { results := [.lit (.bool false)], args := [d] }
  | _ => none }
def LatchHoldsWrongFalsely : Prop := latchHoldsRow.holds Try.pinned (OpenSpec.ofChange latchHoldsWrong)

/-- 'tontinelaw15.LatchTurns': WHATEVER THE INPUT: true; the input reads as it did. -/
def latchTurnsSpec : ChangeSpec := { name := "latchTurns", fn := fun _ => fun
  | [d1, d2] => { results := [.lit (.bool true)], args := [d1, d2] }
  | _ => none }
def latchTurnsRow : OpenClaim := { program := "ytbhfkhcedjgpdaa", sum := "3b28baf2a591e8749ffc47baf2b47d7e211bead0843b6fccff04f55b773031fa", func := "tontine/tontinelaw15.LatchTurns", spec := "latchTurns", inPlace := ["internal/reflectlite.TypeOf"], unfollowed := true, recurses := true, apart := false }
def LatchTurnsSaid : Prop := latchTurnsRow.holds Try.pinned (OpenSpec.ofChange latchTurnsSpec)

/-- ITS FALSE NEIGHBOUR: 'it returns false'. Refute it at one input. -/
def latchTurnsWrong : ChangeSpec := { name := "latchTurns", fn := fun _ => fun
  | [d1, d2] => { results := [.lit (.bool false)], args := [d1, d2] }
  | _ => none }
def LatchTurnsWrongFalsely : Prop := latchTurnsRow.holds Try.pinned (OpenSpec.ofChange latchTurnsWrong)

/- THE SECOND FORM. 'bulk': how many values and letters a reading holds, each counted each time it is reached (what is shared counts as often as it is met; a slice's spare places count too). A statement '..UptoSaid' is the law's where the arguments, and the package variables that the reading takes, are together of bulk at most 1048576: NARROWER than '..Said'. Prove '..Said' where nothing that the law and all that it calls make is longer than what came in: it says more and counts as full. Else prove '..UptoSaid'. A law counts once. -/
mutual
def uptoBulk {H : Type} : DataW H → Nat
  | .lit (.string bytes) => bytes.length + 1
  | .lit _ => 1
  | .nil => 1
  | .ptr d => uptoBulk d + 1
  | .slice elems spare => uptoBulkAll elems + uptoBulkAll spare + 1
  | .agg parts => uptoBulkAll parts + 1
  | .iface _ d => uptoBulk d + 1
  | .map entries => uptoBulkEntries entries + 1
  | .held _ => 1
def uptoBulkAll {H : Type} : List (DataW H) → Nat
  | [] => 0
  | d :: r => uptoBulk d + uptoBulkAll r
def uptoBulkEntries {H : Type} : List (Lit × DataW H) → Nat
  | [] => 0
  | x :: r => uptoBulkEntry x + uptoBulkEntries r
def uptoBulkEntry {H : Type} : Lit × DataW H → Nat
  | (.string bytes, d) => bytes.length + uptoBulk d + 1
  | (_, d) => uptoBulk d + 1
 end
def uptoSmall : (H : Type) → List (DataW H) → Bool := fun _ ds => decide (uptoBulkAll ds ≤ 1048576)
def OpenSpec.upto (s : _root_.Go.ChangeSpec) : _root_.Go.OpenSpec := { _root_.Go.OpenSpec.ofChange s with cond := some uptoSmall }

/-- 'tontinelaw16.RoutePlays', WHERE WHAT IT READS IS OF BULK AT MOST 1048576: true; the input reads as it did. -/
def routePlaysUptoRow : OpenClaim := { program := "ytbhfkhcedjgpdaa", sum := "3b28baf2a591e8749ffc47baf2b47d7e211bead0843b6fccff04f55b773031fa", func := "tontine/tontinelaw16.RoutePlays", spec := "routePlays", apart := false, narrowed := true }
def RoutePlaysUptoSaid : Prop := routePlaysUptoRow.holds Try.pinned (OpenSpec.upto routePlaysSpec)

/-- 'tontinelaw16.RouteRounds', WHERE WHAT IT READS IS OF BULK AT MOST 1048576: true; the input reads as it did. -/
def routeRoundsUptoRow : OpenClaim := { program := "ytbhfkhcedjgpdaa", sum := "3b28baf2a591e8749ffc47baf2b47d7e211bead0843b6fccff04f55b773031fa", func := "tontine/tontinelaw16.RouteRounds", spec := "routeRounds", apart := false, narrowed := true }
def RouteRoundsUptoSaid : Prop := routeRoundsUptoRow.holds Try.pinned (OpenSpec.upto routeRoundsSpec)

/-- 'tontinelaw16.RouteFirst', WHERE WHAT IT READS IS OF BULK AT MOST 1048576: true; the input reads as it did. -/
def routeFirstUptoRow : OpenClaim := { program := "ytbhfkhcedjgpdaa", sum := "3b28baf2a591e8749ffc47baf2b47d7e211bead0843b6fccff04f55b773031fa", func := "tontine/tontinelaw16.RouteFirst", spec := "routeFirst", apart := false, narrowed := true }
def RouteFirstUptoSaid : Prop := routeFirstUptoRow.holds Try.pinned (OpenSpec.upto routeFirstSpec)

/-- 'tontinelaw16.RouteApart', WHERE WHAT IT READS IS OF BULK AT MOST 1048576: true; the input reads as it did. -/
def routeApartUptoRow : OpenClaim := { program := "ytbhfkhcedjgpdaa", sum := "3b28baf2a591e8749ffc47baf2b47d7e211bead0843b6fccff04f55b773031fa", func := "tontine/tontinelaw16.RouteApart", spec := "routeApart", apart := false, narrowed := true }
def RouteApartUptoSaid : Prop := routeApartUptoRow.holds Try.pinned (OpenSpec.upto routeApartSpec)

/-- 'tontinelaw20.CheckFlows', WHERE WHAT IT READS IS OF BULK AT MOST 1048576: true; the input reads as it did. -/
def checkFlowsUptoRow : OpenClaim := { program := "ytbhfkhcedjgpdaa", sum := "3b28baf2a591e8749ffc47baf2b47d7e211bead0843b6fccff04f55b773031fa", func := "tontine/tontinelaw20.CheckFlows", spec := "checkFlows", inPlace := ["internal/reflectlite.TypeOf"], unfollowed := true, recurses := true, apart := false, narrowed := true }
def CheckFlowsUptoSaid : Prop := checkFlowsUptoRow.holds Try.pinned (OpenSpec.upto checkFlowsSpec)

/-- 'tontinelaw20.CheckPlans', WHERE WHAT IT READS IS OF BULK AT MOST 1048576: true; the input reads as it did. -/
def checkPlansUptoRow : OpenClaim := { program := "ytbhfkhcedjgpdaa", sum := "3b28baf2a591e8749ffc47baf2b47d7e211bead0843b6fccff04f55b773031fa", func := "tontine/tontinelaw20.CheckPlans", spec := "checkPlans", inPlace := ["internal/reflectlite.TypeOf"], unfollowed := true, recurses := true, apart := false, narrowed := true }
def CheckPlansUptoSaid : Prop := checkPlansUptoRow.holds Try.pinned (OpenSpec.upto checkPlansSpec)

/-- 'tontinelaw20.CheckLevels', WHERE WHAT IT READS IS OF BULK AT MOST 1048576: true; the input reads as it did. -/
def checkLevelsUptoRow : OpenClaim := { program := "ytbhfkhcedjgpdaa", sum := "3b28baf2a591e8749ffc47baf2b47d7e211bead0843b6fccff04f55b773031fa", func := "tontine/tontinelaw20.CheckLevels", spec := "checkLevels", inPlace := ["internal/reflectlite.TypeOf"], unfollowed := true, recurses := true, apart := false, narrowed := true }
def CheckLevelsUptoSaid : Prop := checkLevelsUptoRow.holds Try.pinned (OpenSpec.upto checkLevelsSpec)

/-- 'tontinelaw15.LatchHolds', WHERE WHAT IT READS IS OF BULK AT MOST 1048576: true; the input reads as it did. -/
def latchHoldsUptoRow : OpenClaim := { program := "ytbhfkhcedjgpdaa", sum := "3b28baf2a591e8749ffc47baf2b47d7e211bead0843b6fccff04f55b773031fa", func := "tontine/tontinelaw15.LatchHolds", spec := "latchHolds", inPlace := ["internal/reflectlite.TypeOf"], unfollowed := true, recurses := true, apart := false, narrowed := true }
def LatchHoldsUptoSaid : Prop := latchHoldsUptoRow.holds Try.pinned (OpenSpec.upto latchHoldsSpec)

/-- 'tontinelaw15.LatchTurns', WHERE WHAT IT READS IS OF BULK AT MOST 1048576: true; the input reads as it did. -/
def latchTurnsUptoRow : OpenClaim := { program := "ytbhfkhcedjgpdaa", sum := "3b28baf2a591e8749ffc47baf2b47d7e211bead0843b6fccff04f55b773031fa", func := "tontine/tontinelaw15.LatchTurns", spec := "latchTurns", inPlace := ["internal/reflectlite.TypeOf"], unfollowed := true, recurses := true, apart := false, narrowed := true }
def LatchTurnsUptoSaid : Prop := latchTurnsUptoRow.holds Try.pinned (OpenSpec.upto latchTurnsSpec)

end Rows
end Go.Proofs.Ytbhfkhcedjgpdaa
