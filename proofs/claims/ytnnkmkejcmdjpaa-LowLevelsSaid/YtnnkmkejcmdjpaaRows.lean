/-
  No cell of these rows narrows 'for every input' (looked for: loops, veiled, ifaces, maps, wideKeys, modest, calm, conditions, laid).
  DERIVED. THE GIVEN ROWS OF THIS SEAT. 4 by the template 'for every input the law returns true; each argument reads behind the call as it read before'; 0 by the template 'total and deterministic' (their statements: YtnnkmkejcmdjpaaTotals.lean).
  GIVEN WITH THE SEED: the statements are not yours to turn. If you find one false, say at which input.
  Laid BY PROGRAM, IN A SANDBOX (cutbox-rows.mjs): the forced cells as the released guide's own fill.sh prints them over the translation 608c7c5ac2b7ff2f… (all of the seat's roots in one cut). By AI agents, Wed Nov 11 2026. No macro, syntax, notation, axiom, sorry.
-/
import Derived.Test.YtnnkmkejcmdjpaaChecked
import GoSem.Claim
import GoSem.ClaimJoined
import GoSem.ClaimMapViews
import Derived.JoinedTies
import Derived.KernelRfl
namespace Go.Proofs.Ytnnkmkejcmdjpaa
/- THE CELL 'sum', in the pinned program and in every row, IS THE sha256 OF THE DUMP (.gsa) THAT YtnnkmkejcmdjpaaProg.lean LOADS. Nothing in Lean hashes anything: it is a label: what it is worth is what the hold of that sum in a sandbox is worth. -/
noncomputable def Try.pinned : Pinned := { name := "ytnnkmkejcmdjpaa", sum := "608c7c5ac2b7ff2f182bbdb4fdcc5dafeca4193578e17a6bbca93cc48bb70056", checked := Try.checked }
namespace Rows
def none {H : Type} : Left H := { results := [], args := [] }

/-- 'tontinelaw25.LowTells': WHATEVER THE INPUT: true; the input reads as it did. -/
def lowTellsSpec : ChangeSpec := { name := "lowTells", fn := fun _ => fun
  | [d1, d2, d3, d4, d5] => { results := [.lit (.bool true)], args := [d1, d2, d3, d4, d5] }
  | _ => none }
def lowTellsRow : OpenClaim := { program := "ytnnkmkejcmdjpaa", sum := "608c7c5ac2b7ff2f182bbdb4fdcc5dafeca4193578e17a6bbca93cc48bb70056", func := "tontine/tontinelaw25.LowTells", spec := "lowTells", unfollowed := true, recurses := true, apart := false }
def LowTellsSaid : Prop := lowTellsRow.holds Try.pinned (OpenSpec.ofChange lowTellsSpec)

/-- ITS FALSE NEIGHBOUR: 'it returns false'. Refute it at one input. -/
def lowTellsWrong : ChangeSpec := { name := "lowTells", fn := fun _ => fun
  | [d1, d2, d3, d4, d5] => { results := [.lit (.bool false)], args := [d1, d2, d3, d4, d5] }
  | _ => none }
def LowTellsWrongFalsely : Prop := lowTellsRow.holds Try.pinned (OpenSpec.ofChange lowTellsWrong)

/-- 'tontinelaw25.LowMixes': WHATEVER THE INPUT: true; the input reads as it did. -/
def lowMixesSpec : ChangeSpec := { name := "lowMixes", fn := fun _ => fun
  | [d1, d2, d3] => { results := [.lit (.bool true)], args := [d1, d2, d3] }
  | _ => none }
def lowMixesRow : OpenClaim := { program := "ytnnkmkejcmdjpaa", sum := "608c7c5ac2b7ff2f182bbdb4fdcc5dafeca4193578e17a6bbca93cc48bb70056", func := "tontine/tontinelaw25.LowMixes", spec := "lowMixes", unfollowed := true, recurses := true, apart := false }
def LowMixesSaid : Prop := lowMixesRow.holds Try.pinned (OpenSpec.ofChange lowMixesSpec)

/-- ITS FALSE NEIGHBOUR: 'it returns false'. Refute it at one input. -/
def lowMixesWrong : ChangeSpec := { name := "lowMixes", fn := fun _ => fun
  | [d1, d2, d3] => { results := [.lit (.bool false)], args := [d1, d2, d3] }
  | _ => none }
def LowMixesWrongFalsely : Prop := lowMixesRow.holds Try.pinned (OpenSpec.ofChange lowMixesWrong)

/-- 'tontinelaw25.LowEqual': WHATEVER THE INPUT: true; the input reads as it did. -/
def lowEqualSpec : ChangeSpec := { name := "lowEqual", fn := fun _ => fun
  | [d1, d2, d3, d4, d5] => { results := [.lit (.bool true)], args := [d1, d2, d3, d4, d5] }
  | _ => none }
def lowEqualRow : OpenClaim := { program := "ytnnkmkejcmdjpaa", sum := "608c7c5ac2b7ff2f182bbdb4fdcc5dafeca4193578e17a6bbca93cc48bb70056", func := "tontine/tontinelaw25.LowEqual", spec := "lowEqual", unfollowed := true, recurses := true, apart := false }
def LowEqualSaid : Prop := lowEqualRow.holds Try.pinned (OpenSpec.ofChange lowEqualSpec)

/-- ITS FALSE NEIGHBOUR: 'it returns false'. Refute it at one input. -/
def lowEqualWrong : ChangeSpec := { name := "lowEqual", fn := fun _ => fun
  | [d1, d2, d3, d4, d5] => { results := [.lit (.bool false)], args := [d1, d2, d3, d4, d5] }
  | _ => none }
def LowEqualWrongFalsely : Prop := lowEqualRow.holds Try.pinned (OpenSpec.ofChange lowEqualWrong)

/-- 'tontinelaw25.LowLevels': WHATEVER THE INPUT: true; the input reads as it did. -/
def lowLevelsSpec : ChangeSpec := { name := "lowLevels", fn := fun _ => fun
  | [d1, d2, d3, d4] => { results := [.lit (.bool true)], args := [d1, d2, d3, d4] }
  | _ => none }
def lowLevelsRow : OpenClaim := { program := "ytnnkmkejcmdjpaa", sum := "608c7c5ac2b7ff2f182bbdb4fdcc5dafeca4193578e17a6bbca93cc48bb70056", func := "tontine/tontinelaw25.LowLevels", spec := "lowLevels", unfollowed := true, recurses := true, apart := false }
def LowLevelsSaid : Prop := lowLevelsRow.holds Try.pinned (OpenSpec.ofChange lowLevelsSpec)

/-- ITS FALSE NEIGHBOUR: 'it returns false'. Refute it at one input. -/
def lowLevelsWrong : ChangeSpec := { name := "lowLevels", fn := fun _ => fun
  | [d1, d2, d3, d4] => { results := [.lit (.bool false)], args := [d1, d2, d3, d4] }
  | _ => none }
def LowLevelsWrongFalsely : Prop := lowLevelsRow.holds Try.pinned (OpenSpec.ofChange lowLevelsWrong)

/- THE SECOND FORM. 'bulk': how many values and letters a reading holds, each counted each time it is reached (what is shared counts as often as it is met; a slice's spare places count too). A statement '..UptoSaid' is the law's where the arguments, and the package variables that the reading takes, are together of bulk at most 1048576: NARROWER than '..Said'. Prove '..Said' where nothing that the law and all that it calls make is longer than what came in: it says more and counts as full. Else prove '..UptoSaid'. A law counts once. -/
mutual
def uptoBulk {H : Type} : DataW H → Nat
  | .lit (.string bytes) => bytes.length + 1
  | .lit _ => 1
  | .nil => 1
  | .ptr d => uptoBulk d + 1
  | .slice elems spare => uptoBulkAll elems + uptoBulkAll spare + 1
  | .agg parts => uptoBulkAll parts + 1
  | .iface _ d => uptoBulk d + 1
  | .map entries => uptoBulkEntries entries + 1
  | .held _ => 1
def uptoBulkAll {H : Type} : List (DataW H) → Nat
  | [] => 0
  | d :: r => uptoBulk d + uptoBulkAll r
def uptoBulkEntries {H : Type} : List (Lit × DataW H) → Nat
  | [] => 0
  | x :: r => uptoBulkEntry x + uptoBulkEntries r
def uptoBulkEntry {H : Type} : Lit × DataW H → Nat
  | (.string bytes, d) => bytes.length + uptoBulk d + 1
  | (_, d) => uptoBulk d + 1
 end
def uptoSmall : (H : Type) → List (DataW H) → Bool := fun _ ds => decide (uptoBulkAll ds ≤ 1048576)
def OpenSpec.upto (s : _root_.Go.ChangeSpec) : _root_.Go.OpenSpec := { _root_.Go.OpenSpec.ofChange s with cond := some uptoSmall }

/-- 'tontinelaw25.LowTells', WHERE WHAT IT READS IS OF BULK AT MOST 1048576: true; the input reads as it did. -/
def lowTellsUptoRow : OpenClaim := { program := "ytnnkmkejcmdjpaa", sum := "608c7c5ac2b7ff2f182bbdb4fdcc5dafeca4193578e17a6bbca93cc48bb70056", func := "tontine/tontinelaw25.LowTells", spec := "lowTells", unfollowed := true, recurses := true, apart := false, narrowed := true }
def LowTellsUptoSaid : Prop := lowTellsUptoRow.holds Try.pinned (OpenSpec.upto lowTellsSpec)

/-- 'tontinelaw25.LowMixes', WHERE WHAT IT READS IS OF BULK AT MOST 1048576: true; the input reads as it did. -/
def lowMixesUptoRow : OpenClaim := { program := "ytnnkmkejcmdjpaa", sum := "608c7c5ac2b7ff2f182bbdb4fdcc5dafeca4193578e17a6bbca93cc48bb70056", func := "tontine/tontinelaw25.LowMixes", spec := "lowMixes", unfollowed := true, recurses := true, apart := false, narrowed := true }
def LowMixesUptoSaid : Prop := lowMixesUptoRow.holds Try.pinned (OpenSpec.upto lowMixesSpec)

/-- 'tontinelaw25.LowEqual', WHERE WHAT IT READS IS OF BULK AT MOST 1048576: true; the input reads as it did. -/
def lowEqualUptoRow : OpenClaim := { program := "ytnnkmkejcmdjpaa", sum := "608c7c5ac2b7ff2f182bbdb4fdcc5dafeca4193578e17a6bbca93cc48bb70056", func := "tontine/tontinelaw25.LowEqual", spec := "lowEqual", unfollowed := true, recurses := true, apart := false, narrowed := true }
def LowEqualUptoSaid : Prop := lowEqualUptoRow.holds Try.pinned (OpenSpec.upto lowEqualSpec)

/-- 'tontinelaw25.LowLevels', WHERE WHAT IT READS IS OF BULK AT MOST 1048576: true; the input reads as it did. -/
def lowLevelsUptoRow : OpenClaim := { program := "ytnnkmkejcmdjpaa", sum := "608c7c5ac2b7ff2f182bbdb4fdcc5dafeca4193578e17a6bbca93cc48bb70056", func := "tontine/tontinelaw25.LowLevels", spec := "lowLevels", unfollowed := true, recurses := true, apart := false, narrowed := true }
def LowLevelsUptoSaid : Prop := lowLevelsUptoRow.holds Try.pinned (OpenSpec.upto lowLevelsSpec)

end Rows
end Go.Proofs.Ytnnkmkejcmdjpaa
