/-
  No cell of these rows narrows 'for every input' (looked for: loops, veiled, ifaces, maps, wideKeys, modest, calm, conditions, laid).
  DERIVED. THE GIVEN ROWS OF THIS SEAT. 4 by the template 'for every input the law returns true; each argument reads behind the call as it read before'; 0 by the template 'total and deterministic' (their statements: YthbbofaolcfgiaaTotals.lean).
  GIVEN WITH THE SEED: the statements are not yours to turn. If you find one false, say at which input.
  Laid BY PROGRAM, IN A SANDBOX (cutbox-rows.mjs): the forced cells as the released guide's own fill.sh prints them over the translation 7bc924f895e340ac… (all of the seat's roots in one cut). By AI agents, Wed Nov 11 2026. No macro, syntax, notation, axiom, sorry.
-/
import Derived.Test.YthbbofaolcfgiaaChecked
import GoSem.Claim
import GoSem.ClaimJoined
import GoSem.ClaimMapViews
import Derived.JoinedTies
import Derived.KernelRfl
namespace Go.Proofs.Ythbbofaolcfgiaa
/- THE CELL 'sum', in the pinned program and in every row, IS THE sha256 OF THE DUMP (.gsa) THAT YthbbofaolcfgiaaProg.lean LOADS. Nothing in Lean hashes anything: it is a label: what it is worth is what the hold of that sum in a sandbox is worth. -/
noncomputable def Try.pinned : Pinned := { name := "ythbbofaolcfgiaa", sum := "7bc924f895e340ac070e98f0316c6929d343323951ab3f30b8280d18033e4bb0", checked := Try.checked }
namespace Rows
def none {H : Type} : Left H := { results := [], args := [] }

/-- 'tontinelaw4.ScriptBack': WHATEVER THE INPUT: true; the input reads as it did. -/
def scriptBackSpec : ChangeSpec := { name := "scriptBack", fn := fun _ => fun
  | [d1, d2, d3] => { results := [.lit (.bool true)], args := [d1, d2, d3] }
  | _ => none }
def scriptBackRow : OpenClaim := { program := "ythbbofaolcfgiaa", sum := "7bc924f895e340ac070e98f0316c6929d343323951ab3f30b8280d18033e4bb0", func := "tontine/tontinelaw4.ScriptBack", spec := "scriptBack", inPlace := ["internal/reflectlite.TypeOf"], unfollowed := true, recurses := true, apart := false }
def ScriptBackSaid : Prop := scriptBackRow.holds Try.pinned (OpenSpec.ofChange scriptBackSpec)

/-- ITS FALSE NEIGHBOUR: 'it returns false'. Refute it at one input. -/
def scriptBackWrong : ChangeSpec := { name := "scriptBack", fn := fun _ => fun
  | [d1, d2, d3] => { results := [.lit (.bool false)], args := [d1, d2, d3] }
  | _ => none }
def ScriptBackWrongFalsely : Prop := scriptBackRow.holds Try.pinned (OpenSpec.ofChange scriptBackWrong)

/-- 'tontinelaw4.ScriptOnce': WHATEVER THE INPUT: true; the input reads as it did. -/
def scriptOnceSpec : ChangeSpec := { name := "scriptOnce", fn := fun _ => fun
  | [d1, d2, d3] => { results := [.lit (.bool true)], args := [d1, d2, d3] }
  | _ => none }
def scriptOnceRow : OpenClaim := { program := "ythbbofaolcfgiaa", sum := "7bc924f895e340ac070e98f0316c6929d343323951ab3f30b8280d18033e4bb0", func := "tontine/tontinelaw4.ScriptOnce", spec := "scriptOnce", inPlace := ["internal/reflectlite.TypeOf"], unfollowed := true, recurses := true, apart := false }
def ScriptOnceSaid : Prop := scriptOnceRow.holds Try.pinned (OpenSpec.ofChange scriptOnceSpec)

/-- ITS FALSE NEIGHBOUR: 'it returns false'. Refute it at one input. -/
def scriptOnceWrong : ChangeSpec := { name := "scriptOnce", fn := fun _ => fun
  | [d1, d2, d3] => { results := [.lit (.bool false)], args := [d1, d2, d3] }
  | _ => none }
def ScriptOnceWrongFalsely : Prop := scriptOnceRow.holds Try.pinned (OpenSpec.ofChange scriptOnceWrong)

/-- 'tontinelaw4.ScriptLimits': WHATEVER THE INPUT: true; the input reads as it did. -/
def scriptLimitsSpec : ChangeSpec := { name := "scriptLimits", fn := fun _ => fun
  | [d1, d2] => { results := [.lit (.bool true)], args := [d1, d2] }
  | _ => none }
def scriptLimitsRow : OpenClaim := { program := "ythbbofaolcfgiaa", sum := "7bc924f895e340ac070e98f0316c6929d343323951ab3f30b8280d18033e4bb0", func := "tontine/tontinelaw4.ScriptLimits", spec := "scriptLimits", inPlace := ["internal/reflectlite.TypeOf"], unfollowed := true, recurses := true, apart := false }
def ScriptLimitsSaid : Prop := scriptLimitsRow.holds Try.pinned (OpenSpec.ofChange scriptLimitsSpec)

/-- ITS FALSE NEIGHBOUR: 'it returns false'. Refute it at one input. -/
def scriptLimitsWrong : ChangeSpec := { name := "scriptLimits", fn := fun _ => fun
  | [d1, d2] => { results := [.lit (.bool false)], args := [d1, d2] }
  | _ => none }
def ScriptLimitsWrongFalsely : Prop := scriptLimitsRow.holds Try.pinned (OpenSpec.ofChange scriptLimitsWrong)

/-- 'tontinelaw4.ScriptUnlike': WHATEVER THE INPUT: true; the input reads as it did. -/
def scriptUnlikeSpec : ChangeSpec := { name := "scriptUnlike", fn := fun _ => fun
  | [d1, d2] => { results := [.lit (.bool true)], args := [d1, d2] }
  | _ => none }
def scriptUnlikeRow : OpenClaim := { program := "ythbbofaolcfgiaa", sum := "7bc924f895e340ac070e98f0316c6929d343323951ab3f30b8280d18033e4bb0", func := "tontine/tontinelaw4.ScriptUnlike", spec := "scriptUnlike", inPlace := ["internal/reflectlite.TypeOf"], unfollowed := true, recurses := true, apart := false }
def ScriptUnlikeSaid : Prop := scriptUnlikeRow.holds Try.pinned (OpenSpec.ofChange scriptUnlikeSpec)

/-- ITS FALSE NEIGHBOUR: 'it returns false'. Refute it at one input. -/
def scriptUnlikeWrong : ChangeSpec := { name := "scriptUnlike", fn := fun _ => fun
  | [d1, d2] => { results := [.lit (.bool false)], args := [d1, d2] }
  | _ => none }
def ScriptUnlikeWrongFalsely : Prop := scriptUnlikeRow.holds Try.pinned (OpenSpec.ofChange scriptUnlikeWrong)

/- THE SECOND FORM. 'bulk': how many values and letters a reading holds, each counted each time it is reached (what is shared counts as often as it is met; a slice's spare places count too). A statement '..UptoSaid' is the law's where the arguments, and the package variables that the reading takes, are together of bulk at most 1048576: NARROWER than '..Said'. Prove '..Said' where nothing that the law and all that it calls make is longer than what came in: it says more and counts as full. Else prove '..UptoSaid'. A law counts once. -/
mutual
def uptoBulk {H : Type} : DataW H → Nat
  | .lit (.string bytes) => bytes.length + 1
  | .lit _ => 1
  | .nil => 1
  | .ptr d => uptoBulk d + 1
  | .slice elems spare => uptoBulkAll elems + uptoBulkAll spare + 1
  | .agg parts => uptoBulkAll parts + 1
  | .iface _ d => uptoBulk d + 1
  | .map entries => uptoBulkEntries entries + 1
  | .held _ => 1
def uptoBulkAll {H : Type} : List (DataW H) → Nat
  | [] => 0
  | d :: r => uptoBulk d + uptoBulkAll r
def uptoBulkEntries {H : Type} : List (Lit × DataW H) → Nat
  | [] => 0
  | x :: r => uptoBulkEntry x + uptoBulkEntries r
def uptoBulkEntry {H : Type} : Lit × DataW H → Nat
  | (.string bytes, d) => bytes.length + uptoBulk d + 1
  | (_, d) => uptoBulk d + 1
 end
def uptoSmall : (H : Type) → List (DataW H) → Bool := fun _ ds => decide (uptoBulkAll ds ≤ 1048576)
def OpenSpec.upto (s : _root_.Go.ChangeSpec) : _root_.Go.OpenSpec := { _root_.Go.OpenSpec.ofChange s with cond := some uptoSmall }

/-- 'tontinelaw4.ScriptBack', WHERE WHAT IT READS IS OF BULK AT MOST 1048576: true; the input reads as it did. -/
def scriptBackUptoRow : OpenClaim := { program := "ythbbofaolcfgiaa", sum := "7bc924f895e340ac070e98f0316c6929d343323951ab3f30b8280d18033e4bb0", func := "tontine/tontinelaw4.ScriptBack", spec := "scriptBack", inPlace := ["internal/reflectlite.TypeOf"], unfollowed := true, recurses := true, apart := false, narrowed := true }
def ScriptBackUptoSaid : Prop := scriptBackUptoRow.holds Try.pinned (OpenSpec.upto scriptBackSpec)

/-- 'tontinelaw4.ScriptOnce', WHERE WHAT IT READS IS OF BULK AT MOST 1048576: true; the input reads as it did. -/
def scriptOnceUptoRow : OpenClaim := { program := "ythbbofaolcfgiaa", sum := "7bc924f895e340ac070e98f0316c6929d343323951ab3f30b8280d18033e4bb0", func := "tontine/tontinelaw4.ScriptOnce", spec := "scriptOnce", inPlace := ["internal/reflectlite.TypeOf"], unfollowed := true, recurses := true, apart := false, narrowed := true }
def ScriptOnceUptoSaid : Prop := scriptOnceUptoRow.holds Try.pinned (OpenSpec.upto scriptOnceSpec)

/-- 'tontinelaw4.ScriptLimits', WHERE WHAT IT READS IS OF BULK AT MOST 1048576: true; the input reads as it did. -/
def scriptLimitsUptoRow : OpenClaim := { program := "ythbbofaolcfgiaa", sum := "7bc924f895e340ac070e98f0316c6929d343323951ab3f30b8280d18033e4bb0", func := "tontine/tontinelaw4.ScriptLimits", spec := "scriptLimits", inPlace := ["internal/reflectlite.TypeOf"], unfollowed := true, recurses := true, apart := false, narrowed := true }
def ScriptLimitsUptoSaid : Prop := scriptLimitsUptoRow.holds Try.pinned (OpenSpec.upto scriptLimitsSpec)

/-- 'tontinelaw4.ScriptUnlike', WHERE WHAT IT READS IS OF BULK AT MOST 1048576: true; the input reads as it did. -/
def scriptUnlikeUptoRow : OpenClaim := { program := "ythbbofaolcfgiaa", sum := "7bc924f895e340ac070e98f0316c6929d343323951ab3f30b8280d18033e4bb0", func := "tontine/tontinelaw4.ScriptUnlike", spec := "scriptUnlike", inPlace := ["internal/reflectlite.TypeOf"], unfollowed := true, recurses := true, apart := false, narrowed := true }
def ScriptUnlikeUptoSaid : Prop := scriptUnlikeUptoRow.holds Try.pinned (OpenSpec.upto scriptUnlikeSpec)

end Rows
end Go.Proofs.Ythbbofaolcfgiaa
