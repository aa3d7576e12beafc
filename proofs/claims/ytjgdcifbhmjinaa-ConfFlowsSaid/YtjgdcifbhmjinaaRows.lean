/-
  No cell of these rows narrows 'for every input' (looked for: loops, veiled, ifaces, maps, wideKeys, modest, calm, conditions, laid).
  DERIVED. THE GIVEN ROWS OF THIS SEAT. 9 by the template 'for every input the law returns true; each argument reads behind the call as it read before'; 0 by the template 'total and deterministic' (their statements: YtjgdcifbhmjinaaTotals.lean).
  GIVEN WITH THE SEED: the statements are not yours to turn. If you find one false, say at which input.
  Laid BY PROGRAM, IN A SANDBOX (cutbox-rows.mjs): the forced cells as the released guide's own fill.sh prints them over the translation b87f82a18f28e2a1… (all of the seat's roots in one cut). By AI agents, Wed Nov 11 2026. No macro, syntax, notation, axiom, sorry.
-/
import Derived.Test.YtjgdcifbhmjinaaChecked
import GoSem.Claim
import GoSem.ClaimJoined
import GoSem.ClaimMapViews
import Derived.JoinedTies
import Derived.KernelRfl
namespace Go.Proofs.Ytjgdcifbhmjinaa
/- THE CELL 'sum', in the pinned program and in every row, IS THE sha256 OF THE DUMP (.gsa) THAT YtjgdcifbhmjinaaProg.lean LOADS. Nothing in Lean hashes anything: it is a label: what it is worth is what the hold of that sum in a sandbox is worth. -/
noncomputable def Try.pinned : Pinned := { name := "ytjgdcifbhmjinaa", sum := "b87f82a18f28e2a125a624d9ed1fefd9587a9579f3703b8a3706e225e096b072", checked := Try.checked }
namespace Rows
def none {H : Type} : Left H := { results := [], args := [] }

/-- 'tontinelaw14.ReleaseTells': WHATEVER THE INPUT: true; the input reads as it did. -/
def releaseTellsSpec : ChangeSpec := { name := "releaseTells", fn := fun _ => fun
  | [d1, d2, d3, d4, d5] => { results := [.lit (.bool true)], args := [d1, d2, d3, d4, d5] }
  | _ => none }
def releaseTellsRow : OpenClaim := { program := "ytjgdcifbhmjinaa", sum := "b87f82a18f28e2a125a624d9ed1fefd9587a9579f3703b8a3706e225e096b072", func := "tontine/tontinelaw14.ReleaseTells", spec := "releaseTells", unfollowed := true, recurses := true, apart := false }
def ReleaseTellsSaid : Prop := releaseTellsRow.holds Try.pinned (OpenSpec.ofChange releaseTellsSpec)

/-- ITS FALSE NEIGHBOUR: 'it returns false'. Refute it at one input. -/
def releaseTellsWrong : ChangeSpec := { name := "releaseTells", fn := fun _ => fun
  | [d1, d2, d3, d4, d5] => { results := [.lit (.bool false)], args := [d1, d2, d3, d4, d5] }
  | _ => none }
def ReleaseTellsWrongFalsely : Prop := releaseTellsRow.holds Try.pinned (OpenSpec.ofChange releaseTellsWrong)

/-- 'tontinelaw14.ReleaseCounts': WHATEVER THE INPUT: true; the input reads as it did. -/
def releaseCountsSpec : ChangeSpec := { name := "releaseCounts", fn := fun _ => fun
  | [d1, d2, d3] => { results := [.lit (.bool true)], args := [d1, d2, d3] }
  | _ => none }
def releaseCountsRow : OpenClaim := { program := "ytjgdcifbhmjinaa", sum := "b87f82a18f28e2a125a624d9ed1fefd9587a9579f3703b8a3706e225e096b072", func := "tontine/tontinelaw14.ReleaseCounts", spec := "releaseCounts", unfollowed := true, recurses := true, apart := false }
def ReleaseCountsSaid : Prop := releaseCountsRow.holds Try.pinned (OpenSpec.ofChange releaseCountsSpec)

/-- ITS FALSE NEIGHBOUR: 'it returns false'. Refute it at one input. -/
def releaseCountsWrong : ChangeSpec := { name := "releaseCounts", fn := fun _ => fun
  | [d1, d2, d3] => { results := [.lit (.bool false)], args := [d1, d2, d3] }
  | _ => none }
def ReleaseCountsWrongFalsely : Prop := releaseCountsRow.holds Try.pinned (OpenSpec.ofChange releaseCountsWrong)

/-- 'tontinelaw14.ReleaseApart': WHATEVER THE INPUT: true; the input reads as it did. -/
def releaseApartSpec : ChangeSpec := { name := "releaseApart", fn := fun _ => fun
  | [d1, d2, d3, d4] => { results := [.lit (.bool true)], args := [d1, d2, d3, d4] }
  | _ => none }
def releaseApartRow : OpenClaim := { program := "ytjgdcifbhmjinaa", sum := "b87f82a18f28e2a125a624d9ed1fefd9587a9579f3703b8a3706e225e096b072", func := "tontine/tontinelaw14.ReleaseApart", spec := "releaseApart", unfollowed := true, recurses := true, apart := false }
def ReleaseApartSaid : Prop := releaseApartRow.holds Try.pinned (OpenSpec.ofChange releaseApartSpec)

/-- ITS FALSE NEIGHBOUR: 'it returns false'. Refute it at one input. -/
def releaseApartWrong : ChangeSpec := { name := "releaseApart", fn := fun _ => fun
  | [d1, d2, d3, d4] => { results := [.lit (.bool false)], args := [d1, d2, d3, d4] }
  | _ => none }
def ReleaseApartWrongFalsely : Prop := releaseApartRow.holds Try.pinned (OpenSpec.ofChange releaseApartWrong)

/-- 'tontinelaw14.ReleaseGrows': WHATEVER THE INPUT: true; the input reads as it did. -/
def releaseGrowsSpec : ChangeSpec := { name := "releaseGrows", fn := fun _ => fun
  | [d1, d2, d3] => { results := [.lit (.bool true)], args := [d1, d2, d3] }
  | _ => none }
def releaseGrowsRow : OpenClaim := { program := "ytjgdcifbhmjinaa", sum := "b87f82a18f28e2a125a624d9ed1fefd9587a9579f3703b8a3706e225e096b072", func := "tontine/tontinelaw14.ReleaseGrows", spec := "releaseGrows", unfollowed := true, recurses := true, apart := false }
def ReleaseGrowsSaid : Prop := releaseGrowsRow.holds Try.pinned (OpenSpec.ofChange releaseGrowsSpec)

/-- ITS FALSE NEIGHBOUR: 'it returns false'. Refute it at one input. -/
def releaseGrowsWrong : ChangeSpec := { name := "releaseGrows", fn := fun _ => fun
  | [d1, d2, d3] => { results := [.lit (.bool false)], args := [d1, d2, d3] }
  | _ => none }
def ReleaseGrowsWrongFalsely : Prop := releaseGrowsRow.holds Try.pinned (OpenSpec.ofChange releaseGrowsWrong)

/-- 'tontinelaw3.ConfLimits': WHATEVER THE INPUT: true; the input reads as it did. -/
def confLimitsSpec : ChangeSpec := { name := "confLimits", fn := fun _ => fun
  | [d1, d2, d3] => { results := [.lit (.bool true)], args := [d1, d2, d3] }
  | _ => none }
def confLimitsRow : OpenClaim := { program := "ytjgdcifbhmjinaa", sum := "b87f82a18f28e2a125a624d9ed1fefd9587a9579f3703b8a3706e225e096b072", func := "tontine/tontinelaw3.ConfLimits", spec := "confLimits", inPlace := ["internal/reflectlite.TypeOf"], unfollowed := true, recurses := true, apart := false }
def ConfLimitsSaid : Prop := confLimitsRow.holds Try.pinned (OpenSpec.ofChange confLimitsSpec)

/-- ITS FALSE NEIGHBOUR: 'it returns false'. Refute it at one input. -/
def confLimitsWrong : ChangeSpec := { name := "confLimits", fn := fun _ => fun
  | [d1, d2, d3] => { results := [.lit (.bool false)], args := [d1, d2, d3] }
  | _ => none }
def ConfLimitsWrongFalsely : Prop := confLimitsRow.holds Try.pinned (OpenSpec.ofChange confLimitsWrong)

/-- 'tontinelaw3.ConfFlows': WHATEVER THE INPUT: true; the input reads as it did. -/
def confFlowsSpec : ChangeSpec := { name := "confFlows", fn := fun _ => fun
  | [d1, d2, d3] => { results := [.lit (.bool true)], args := [d1, d2, d3] }
  | _ => none }
def confFlowsRow : OpenClaim := { program := "ytjgdcifbhmjinaa", sum := "b87f82a18f28e2a125a624d9ed1fefd9587a9579f3703b8a3706e225e096b072", func := "tontine/tontinelaw3.ConfFlows", spec := "confFlows", inPlace := ["internal/reflectlite.TypeOf"], unfollowed := true, recurses := true, apart := false }
def ConfFlowsSaid : Prop := confFlowsRow.holds Try.pinned (OpenSpec.ofChange confFlowsSpec)

/-- ITS FALSE NEIGHBOUR: 'it returns false'. Refute it at one input. -/
def confFlowsWrong : ChangeSpec := { name := "confFlows", fn := fun _ => fun
  | [d1, d2, d3] => { results := [.lit (.bool false)], args := [d1, d2, d3] }
  | _ => none }
def ConfFlowsWrongFalsely : Prop := confFlowsRow.holds Try.pinned (OpenSpec.ofChange confFlowsWrong)

/-- 'tontinelaw3.ConfPlaces': WHATEVER THE INPUT: true; the input reads as it did. -/
def confPlacesSpec : ChangeSpec := { name := "confPlaces", fn := fun _ => fun
  | [d1, d2] => { results := [.lit (.bool true)], args := [d1, d2] }
  | _ => none }
def confPlacesRow : OpenClaim := { program := "ytjgdcifbhmjinaa", sum := "b87f82a18f28e2a125a624d9ed1fefd9587a9579f3703b8a3706e225e096b072", func := "tontine/tontinelaw3.ConfPlaces", spec := "confPlaces", inPlace := ["internal/reflectlite.TypeOf"], unfollowed := true, recurses := true, apart := false }
def ConfPlacesSaid : Prop := confPlacesRow.holds Try.pinned (OpenSpec.ofChange confPlacesSpec)

/-- ITS FALSE NEIGHBOUR: 'it returns false'. Refute it at one input. -/
def confPlacesWrong : ChangeSpec := { name := "confPlaces", fn := fun _ => fun
  | [d1, d2] => { results := [.lit (.bool false)], args := [d1, d2] }
  | _ => none }
def ConfPlacesWrongFalsely : Prop := confPlacesRow.holds Try.pinned (OpenSpec.ofChange confPlacesWrong)

/-- 'tontinelaw3.ConfPlans': WHATEVER THE INPUT: true; the input reads as it did. -/
def confPlansSpec : ChangeSpec := { name := "confPlans", fn := fun _ => fun
  | [d1, d2] => { results := [.lit (.bool true)], args := [d1, d2] }
  | _ => none }
def confPlansRow : OpenClaim := { program := "ytjgdcifbhmjinaa", sum := "b87f82a18f28e2a125a624d9ed1fefd9587a9579f3703b8a3706e225e096b072", func := "tontine/tontinelaw3.ConfPlans", spec := "confPlans", inPlace := ["internal/reflectlite.TypeOf"], unfollowed := true, recurses := true, apart := false }
def ConfPlansSaid : Prop := confPlansRow.holds Try.pinned (OpenSpec.ofChange confPlansSpec)

/-- ITS FALSE NEIGHBOUR: 'it returns false'. Refute it at one input. -/
def confPlansWrong : ChangeSpec := { name := "confPlans", fn := fun _ => fun
  | [d1, d2] => { results := [.lit (.bool false)], args := [d1, d2] }
  | _ => none }
def ConfPlansWrongFalsely : Prop := confPlansRow.holds Try.pinned (OpenSpec.ofChange confPlansWrong)

/-- 'tontinelaw3.ConfOrder': WHATEVER THE INPUT: true; the input reads as it did. -/
def confOrderSpec : ChangeSpec := { name := "confOrder", fn := fun _ => fun
  | [d1, d2, d3, d4] => { results := [.lit (.bool true)], args := [d1, d2, d3, d4] }
  | _ => none }
def confOrderRow : OpenClaim := { program := "ytjgdcifbhmjinaa", sum := "b87f82a18f28e2a125a624d9ed1fefd9587a9579f3703b8a3706e225e096b072", func := "tontine/tontinelaw3.ConfOrder", spec := "confOrder", inPlace := ["internal/reflectlite.TypeOf"], unfollowed := true, recurses := true, apart := false }
def ConfOrderSaid : Prop := confOrderRow.holds Try.pinned (OpenSpec.ofChange confOrderSpec)

/-- ITS FALSE NEIGHBOUR: 'it returns false'. Refute it at one input. -/
def confOrderWrong : ChangeSpec := { name := "confOrder", fn := fun _ => fun
  | [d1, d2, d3, d4] => { results := [.lit (.bool false)], args := [d1, d2, d3, d4] }
  | _ => none }
def ConfOrderWrongFalsely : Prop := confOrderRow.holds Try.pinned (OpenSpec.ofChange confOrderWrong)

/- THE SECOND FORM. 'bulk': how many values and letters a reading holds, each counted each time it is reached (what is shared counts as often as it is met; a slice's spare places count too). A statement '..UptoSaid' is the law's where the arguments, and the package variables that the reading takes, are together of bulk at most 1048576: NARROWER than '..Said'. Prove '..Said' where nothing that the law and all that it calls make is longer than what came in: it says more and counts as full. Else prove '..UptoSaid'. A law counts once. -/
mutual
def uptoBulk {H : Type} : DataW H → Nat
  | .lit (.string bytes) => bytes.length + 1
  | .lit _ => 1
  | .nil => 1
  | .ptr d => uptoBulk d + 1
  | .slice elems spare => uptoBulkAll elems + uptoBulkAll spare + 1
  | .agg parts => uptoBulkAll parts + 1
  | .iface _ d => uptoBulk d + 1
  | .map entries => uptoBulkEntries entries + 1
  | .held _ => 1
def uptoBulkAll {H : Type} : List (DataW H) → Nat
  | [] => 0
  | d :: r => uptoBulk d + uptoBulkAll r
def uptoBulkEntries {H : Type} : List (Lit × DataW H) → Nat
  | [] => 0
  | x :: r => uptoBulkEntry x + uptoBulkEntries r
def uptoBulkEntry {H : Type} : Lit × DataW H → Nat
  | (.string bytes, d) => bytes.length + uptoBulk d + 1
  | (_, d) => uptoBulk d + 1
 end
def uptoSmall : (H : Type) → List (DataW H) → Bool := fun _ ds => decide (uptoBulkAll ds ≤ 1048576)
def OpenSpec.upto (s : _root_.Go.ChangeSpec) : _root_.Go.OpenSpec := { _root_.Go.OpenSpec.ofChange s with cond := some uptoSmall }

/-- 'tontinelaw14.ReleaseTells', WHERE WHAT IT READS IS OF BULK AT MOST 1048576: true; the input reads as it did. -/
def releaseTellsUptoRow : OpenClaim := { program := "ytjgdcifbhmjinaa", sum := "b87f82a18f28e2a125a624d9ed1fefd9587a9579f3703b8a3706e225e096b072", func := "tontine/tontinelaw14.ReleaseTells", spec := "releaseTells", unfollowed := true, recurses := true, apart := false, narrowed := true }
def ReleaseTellsUptoSaid : Prop := releaseTellsUptoRow.holds Try.pinned (OpenSpec.upto releaseTellsSpec)

/-- 'tontinelaw14.ReleaseCounts', WHERE WHAT IT READS IS OF BULK AT MOST 1048576: true; the input reads as it did. -/
def releaseCountsUptoRow : OpenClaim := { program := "ytjgdcifbhmjinaa", sum := "b87f82a18f28e2a125a624d9ed1fefd9587a9579f3703b8a3706e225e096b072", func := "tontine/tontinelaw14.ReleaseCounts", spec := "releaseCounts", unfollowed := true, recurses := true, apart := false, narrowed := true }
def ReleaseCountsUptoSaid : Prop := releaseCountsUptoRow.holds Try.pinned (OpenSpec.upto releaseCountsSpec)

/-- 'tontinelaw14.ReleaseApart', WHERE WHAT IT READS IS OF BULK AT MOST 1048576: true; the input reads as it did. -/
def releaseApartUptoRow : OpenClaim := { program := "ytjgdcifbhmjinaa", sum := "b87f82a18f28e2a125a624d9ed1fefd9587a9579f3703b8a3706e225e096b072", func := "tontine/tontinelaw14.ReleaseApart", spec := "releaseApart", unfollowed := true, recurses := true, apart := false, narrowed := true }
def ReleaseApartUptoSaid : Prop := releaseApartUptoRow.holds Try.pinned (OpenSpec.upto releaseApartSpec)

/-- 'tontinelaw14.ReleaseGrows', WHERE WHAT IT READS IS OF BULK AT MOST 1048576: true; the input reads as it did. -/
def releaseGrowsUptoRow : OpenClaim := { program := "ytjgdcifbhmjinaa", sum := "b87f82a18f28e2a125a624d9ed1fefd9587a9579f3703b8a3706e225e096b072", func := "tontine/tontinelaw14.ReleaseGrows", spec := "releaseGrows", unfollowed := true, recurses := true, apart := false, narrowed := true }
def ReleaseGrowsUptoSaid : Prop := releaseGrowsUptoRow.holds Try.pinned (OpenSpec.upto releaseGrowsSpec)

/-- 'tontinelaw3.ConfLimits', WHERE WHAT IT READS IS OF BULK AT MOST 1048576: true; the input reads as it did. -/
def confLimitsUptoRow : OpenClaim := { program := "ytjgdcifbhmjinaa", sum := "b87f82a18f28e2a125a624d9ed1fefd9587a9579f3703b8a3706e225e096b072", func := "tontine/tontinelaw3.ConfLimits", spec := "confLimits", inPlace := ["internal/reflectlite.TypeOf"], unfollowed := true, recurses := true, apart := false, narrowed := true }
def ConfLimitsUptoSaid : Prop := confLimitsUptoRow.holds Try.pinned (OpenSpec.upto confLimitsSpec)

/-- 'tontinelaw3.ConfFlows', WHERE WHAT IT READS IS OF BULK AT MOST 1048576: true; the input reads as it did. -/
def confFlowsUptoRow : OpenClaim := { program := "ytjgdcifbhmjinaa", sum := "b87f82a18f28e2a125a624d9ed1fefd9587a9579f3703b8a3706e225e096b072", func := "tontine/tontinelaw3.ConfFlows", spec := "confFlows", inPlace := ["internal/reflectlite.TypeOf"], unfollowed := true, recurses := true, apart := false, narrowed := true }
def ConfFlowsUptoSaid : Prop := confFlowsUptoRow.holds Try.pinned (OpenSpec.upto confFlowsSpec)

/-- 'tontinelaw3.ConfPlaces', WHERE WHAT IT READS IS OF BULK AT MOST 1048576: true; the input reads as it did. -/
def confPlacesUptoRow : OpenClaim := { program := "ytjgdcifbhmjinaa", sum := "b87f82a18f28e2a125a624d9ed1fefd9587a9579f3703b8a3706e225e096b072", func := "tontine/tontinelaw3.ConfPlaces", spec := "confPlaces", inPlace := ["internal/reflectlite.TypeOf"], unfollowed := true, recurses := true, apart := false, narrowed := true }
def ConfPlacesUptoSaid : Prop := confPlacesUptoRow.holds Try.pinned (OpenSpec.upto confPlacesSpec)

/-- 'tontinelaw3.ConfPlans', WHERE WHAT IT READS IS OF BULK AT MOST 1048576: true; the input reads as it did. -/
def confPlansUptoRow : OpenClaim := { program := "ytjgdcifbhmjinaa", sum := "b87f82a18f28e2a125a624d9ed1fefd9587a9579f3703b8a3706e225e096b072", func := "tontine/tontinelaw3.ConfPlans", spec := "confPlans", inPlace := ["internal/reflectlite.TypeOf"], unfollowed := true, recurses := true, apart := false, narrowed := true }
def ConfPlansUptoSaid : Prop := confPlansUptoRow.holds Try.pinned (OpenSpec.upto confPlansSpec)

/-- 'tontinelaw3.ConfOrder', WHERE WHAT IT READS IS OF BULK AT MOST 1048576: true; the input reads as it did. -/
def confOrderUptoRow : OpenClaim := { program := "ytjgdcifbhmjinaa", sum := "b87f82a18f28e2a125a624d9ed1fefd9587a9579f3703b8a3706e225e096b072", func := "tontine/tontinelaw3.ConfOrder", spec := "confOrder", inPlace := ["internal/reflectlite.TypeOf"], unfollowed := true, recurses := true, apart := false, narrowed := true }
def ConfOrderUptoSaid : Prop := confOrderUptoRow.holds Try.pinned (OpenSpec.upto confOrderSpec)

end Rows
end Go.Proofs.Ytjgdcifbhmjinaa
