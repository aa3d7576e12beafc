/-
  No cell of these rows narrows 'for every input' (looked for: loops, veiled, ifaces, maps, wideKeys, modest, calm, conditions, laid).
  DERIVED. THE GIVEN ROWS OF THIS SEAT. 6 by the template 'for every input the law returns true; each argument reads behind the call as it read before'; 0 by the template 'total and deterministic' (their statements: YtiejhnijfgdapaaTotals.lean).
  GIVEN WITH THE SEED: the statements are not yours to turn. If you find one false, say at which input.
  Laid BY PROGRAM, IN A SANDBOX (cutbox-rows.mjs): the forced cells as the released guide's own fill.sh prints them over the translation 0d1eff2c0be59fe7… (all of the seat's roots in one cut). By AI agents, Wed Nov 11 2026. No macro, syntax, notation, axiom, sorry.
-/
import Derived.Test.YtiejhnijfgdapaaChecked
import GoSem.Claim
import GoSem.ClaimJoined
import GoSem.ClaimMapViews
import Derived.JoinedTies
import Derived.KernelRfl
namespace Go.Proofs.Ytiejhnijfgdapaa
/- THE CELL 'sum', in the pinned program and in every row, IS THE sha256 OF THE DUMP (.gsa) THAT YtiejhnijfgdapaaProg.lean LOADS. Nothing in Lean hashes anything: it is a label: what it is worth is what the hold of that sum in a sandbox is worth. -/
noncomputable def Try.pinned : Pinned := { name := "ytiejhnijfgdapaa", sum := "0d1eff2c0be59fe76ded02070162c147c092995226a89cb14f8aaf61f9e51a4f", checked := Try.checked }
namespace Rows
def none {H : Type} : Left H := { results := [], args := [] }

/-- 'tontinelaw2.WireBack': WHATEVER THE INPUT: true; the input reads as it did. -/
def wireBackSpec : ChangeSpec := { name := "wireBack", fn := fun _ => fun
  | [d1, d2] => { results := [.lit (.bool true)], args := [d1, d2] }
  | _ => none }
def wireBackRow : OpenClaim := { program := "ytiejhnijfgdapaa", sum := "0d1eff2c0be59fe76ded02070162c147c092995226a89cb14f8aaf61f9e51a4f", func := "tontine/tontinelaw2.WireBack", spec := "wireBack", inPlace := ["internal/reflectlite.TypeOf"], unfollowed := true, recurses := true, apart := false }
def WireBackSaid : Prop := wireBackRow.holds Try.pinned (OpenSpec.ofChange wireBackSpec)

/-- ITS FALSE NEIGHBOUR: 'it returns false'. Refute it at one input. -/
def wireBackWrong : ChangeSpec := { name := "wireBack", fn := fun _ => fun
  | [d1, d2] => { results := [.lit (.bool false)], args := [d1, d2] }
  | _ => none }
def WireBackWrongFalsely : Prop := wireBackRow.holds Try.pinned (OpenSpec.ofChange wireBackWrong)

/-- 'tontinelaw2.WireWrong': WHATEVER THE INPUT: true; the input reads as it did. -/
def wireWrongSpec : ChangeSpec := { name := "wireWrong", fn := fun _ => fun
  | [d1, d2, d3] => { results := [.lit (.bool true)], args := [d1, d2, d3] }
  | _ => none }
def wireWrongRow : OpenClaim := { program := "ytiejhnijfgdapaa", sum := "0d1eff2c0be59fe76ded02070162c147c092995226a89cb14f8aaf61f9e51a4f", func := "tontine/tontinelaw2.WireWrong", spec := "wireWrong", inPlace := ["internal/reflectlite.TypeOf"], unfollowed := true, recurses := true, apart := false }
def WireWrongSaid : Prop := wireWrongRow.holds Try.pinned (OpenSpec.ofChange wireWrongSpec)

/-- ITS FALSE NEIGHBOUR: 'it returns false'. Refute it at one input. -/
def wireWrongWrong : ChangeSpec := { name := "wireWrong", fn := fun _ => fun
  | [d1, d2, d3] => { results := [.lit (.bool false)], args := [d1, d2, d3] }
  | _ => none }
def WireWrongWrongFalsely : Prop := wireWrongRow.holds Try.pinned (OpenSpec.ofChange wireWrongWrong)

/-- 'tontinelaw2.WireStops': WHATEVER THE INPUT: true; the input reads as it did. -/
def wireStopsSpec : ChangeSpec := { name := "wireStops", fn := fun _ => fun
  | [d1, d2] => { results := [.lit (.bool true)], args := [d1, d2] }
  | _ => none }
def wireStopsRow : OpenClaim := { program := "ytiejhnijfgdapaa", sum := "0d1eff2c0be59fe76ded02070162c147c092995226a89cb14f8aaf61f9e51a4f", func := "tontine/tontinelaw2.WireStops", spec := "wireStops", inPlace := ["internal/reflectlite.TypeOf"], unfollowed := true, recurses := true, apart := false }
def WireStopsSaid : Prop := wireStopsRow.holds Try.pinned (OpenSpec.ofChange wireStopsSpec)

/-- ITS FALSE NEIGHBOUR: 'it returns false'. Refute it at one input. -/
def wireStopsWrong : ChangeSpec := { name := "wireStops", fn := fun _ => fun
  | [d1, d2] => { results := [.lit (.bool false)], args := [d1, d2] }
  | _ => none }
def WireStopsWrongFalsely : Prop := wireStopsRow.holds Try.pinned (OpenSpec.ofChange wireStopsWrong)

/-- 'tontinelaw9.ObjectOrder': WHATEVER THE INPUT: true; the input reads as it did. -/
def objectOrderSpec : ChangeSpec := { name := "objectOrder", fn := fun _ => fun
  | [d1, d2, d3] => { results := [.lit (.bool true)], args := [d1, d2, d3] }
  | _ => none }
def objectOrderRow : OpenClaim := { program := "ytiejhnijfgdapaa", sum := "0d1eff2c0be59fe76ded02070162c147c092995226a89cb14f8aaf61f9e51a4f", func := "tontine/tontinelaw9.ObjectOrder", spec := "objectOrder", inPlace := ["internal/reflectlite.TypeOf"], unfollowed := true, recurses := true, apart := false }
def ObjectOrderSaid : Prop := objectOrderRow.holds Try.pinned (OpenSpec.ofChange objectOrderSpec)

/-- ITS FALSE NEIGHBOUR: 'it returns false'. Refute it at one input. -/
def objectOrderWrong : ChangeSpec := { name := "objectOrder", fn := fun _ => fun
  | [d1, d2, d3] => { results := [.lit (.bool false)], args := [d1, d2, d3] }
  | _ => none }
def ObjectOrderWrongFalsely : Prop := objectOrderRow.holds Try.pinned (OpenSpec.ofChange objectOrderWrong)

/-- 'tontinelaw9.ObjectApart': WHATEVER THE INPUT: true; the input reads as it did. -/
def objectApartSpec : ChangeSpec := { name := "objectApart", fn := fun _ => fun
  | [d1, d2] => { results := [.lit (.bool true)], args := [d1, d2] }
  | _ => none }
def objectApartRow : OpenClaim := { program := "ytiejhnijfgdapaa", sum := "0d1eff2c0be59fe76ded02070162c147c092995226a89cb14f8aaf61f9e51a4f", func := "tontine/tontinelaw9.ObjectApart", spec := "objectApart", inPlace := ["internal/reflectlite.TypeOf"], unfollowed := true, recurses := true, apart := false }
def ObjectApartSaid : Prop := objectApartRow.holds Try.pinned (OpenSpec.ofChange objectApartSpec)

/-- ITS FALSE NEIGHBOUR: 'it returns false'. Refute it at one input. -/
def objectApartWrong : ChangeSpec := { name := "objectApart", fn := fun _ => fun
  | [d1, d2] => { results := [.lit (.bool false)], args := [d1, d2] }
  | _ => none }
def ObjectApartWrongFalsely : Prop := objectApartRow.holds Try.pinned (OpenSpec.ofChange objectApartWrong)

/-- 'tontinelaw9.ObjectDrops': WHATEVER THE INPUT: true; the input reads as it did. -/
def objectDropsSpec : ChangeSpec := { name := "objectDrops", fn := fun _ => fun
  | [d1, d2] => { results := [.lit (.bool true)], args := [d1, d2] }
  | _ => none }
def objectDropsRow : OpenClaim := { program := "ytiejhnijfgdapaa", sum := "0d1eff2c0be59fe76ded02070162c147c092995226a89cb14f8aaf61f9e51a4f", func := "tontine/tontinelaw9.ObjectDrops", spec := "objectDrops", inPlace := ["internal/reflectlite.TypeOf"], unfollowed := true, recurses := true, apart := false }
def ObjectDropsSaid : Prop := objectDropsRow.holds Try.pinned (OpenSpec.ofChange objectDropsSpec)

/-- ITS FALSE NEIGHBOUR: 'it returns false'. Refute it at one input. -/
def objectDropsWrong : ChangeSpec := { name := "objectDrops", fn := fun _ => fun
  | [d1, d2] => { results := [.lit (.bool false)], args := [d1, d2] }
  | _ => none }
def ObjectDropsWrongFalsely : Prop := objectDropsRow.holds Try.pinned (OpenSpec.ofChange objectDropsWrong)

/- THE SECOND FORM. 'bulk': how many values and letters a reading holds, each counted each time it is reached (what is shared counts as often as it is met; a slice's spare places count too). A statement '..UptoSaid' is the law's where the arguments, and the package variables that the reading takes, are together of bulk at most 1048576: NARROWER than '..Said'. Prove '..Said' where nothing that the law and all that it calls make is longer than what came in: it says more and counts as full. Else prove '..UptoSaid'. A law counts once. -/
mutual
def uptoBulk {H : Type} : DataW H → Nat
  | .lit (.string bytes) => bytes.length + 1
  | .lit _ => 1
  | .nil => 1
  | .ptr d => uptoBulk d + 1
  | .slice elems spare => uptoBulkAll elems + uptoBulkAll spare + 1
  | .agg parts => uptoBulkAll parts + 1
  | .iface _ d => uptoBulk d + 1
  | .map entries => uptoBulkEntries entries + 1
  | .held _ => 1
def uptoBulkAll {H : Type} : List (DataW H) → Nat
  | [] => 0
  | d :: r => uptoBulk d + uptoBulkAll r
def uptoBulkEntries {H : Type} : List (Lit × DataW H) → Nat
  | [] => 0
  | x :: r => uptoBulkEntry x + uptoBulkEntries r
def uptoBulkEntry {H : Type} : Lit × DataW H → Nat
  | (.string bytes, d) => bytes.length + uptoBulk d + 1
  | (_, d) => uptoBulk d + 1
 end
def uptoSmall : (H : Type) → List (DataW H) → Bool := fun _ ds => decide (uptoBulkAll ds ≤ 1048576)
def OpenSpec.upto (s : _root_.Go.ChangeSpec) : _root_.Go.OpenSpec := { _root_.Go.OpenSpec.ofChange s with cond := some uptoSmall }

/-- 'tontinelaw2.WireBack', WHERE WHAT IT READS IS OF BULK AT MOST 1048576: true; the input reads as it did. -/
def wireBackUptoRow : OpenClaim := { program := "ytiejhnijfgdapaa", sum := "0d1eff2c0be59fe76ded02070162c147c092995226a89cb14f8aaf61f9e51a4f", func := "tontine/tontinelaw2.WireBack", spec := "wireBack", inPlace := ["internal/reflectlite.TypeOf"], unfollowed := true, recurses := true, apart := false, narrowed := true }
def WireBackUptoSaid : Prop := wireBackUptoRow.holds Try.pinned (OpenSpec.upto wireBackSpec)

/-- 'tontinelaw2.WireWrong', WHERE WHAT IT READS IS OF BULK AT MOST 1048576: true; the input reads as it did. -/
def wireWrongUptoRow : OpenClaim := { program := "ytiejhnijfgdapaa", sum := "0d1eff2c0be59fe76ded02070162c147c092995226a89cb14f8aaf61f9e51a4f", func := "tontine/tontinelaw2.WireWrong", spec := "wireWrong", inPlace := ["internal/reflectlite.TypeOf"], unfollowed := true, recurses := true, apart := false, narrowed := true }
def WireWrongUptoSaid : Prop := wireWrongUptoRow.holds Try.pinned (OpenSpec.upto wireWrongSpec)

/-- 'tontinelaw2.WireStops', WHERE WHAT IT READS IS OF BULK AT MOST 1048576: true; the input reads as it did. -/
def wireStopsUptoRow : OpenClaim := { program := "ytiejhnijfgdapaa", sum := "0d1eff2c0be59fe76ded02070162c147c092995226a89cb14f8aaf61f9e51a4f", func := "tontine/tontinelaw2.WireStops", spec := "wireStops", inPlace := ["internal/reflectlite.TypeOf"], unfollowed := true, recurses := true, apart := false, narrowed := true }
def WireStopsUptoSaid : Prop := wireStopsUptoRow.holds Try.pinned (OpenSpec.upto wireStopsSpec)

/-- 'tontinelaw9.ObjectOrder', WHERE WHAT IT READS IS OF BULK AT MOST 1048576: true; the input reads as it did. -/
def objectOrderUptoRow : OpenClaim := { program := "ytiejhnijfgdapaa", sum := "0d1eff2c0be59fe76ded02070162c147c092995226a89cb14f8aaf61f9e51a4f", func := "tontine/tontinelaw9.ObjectOrder", spec := "objectOrder", inPlace := ["internal/reflectlite.TypeOf"], unfollowed := true, recurses := true, apart := false, narrowed := true }
def ObjectOrderUptoSaid : Prop := objectOrderUptoRow.holds Try.pinned (OpenSpec.upto objectOrderSpec)

/-- 'tontinelaw9.ObjectApart', WHERE WHAT IT READS IS OF BULK AT MOST 1048576: true; the input reads as it did. -/
def objectApartUptoRow : OpenClaim := { program := "ytiejhnijfgdapaa", sum := "0d1eff2c0be59fe76ded02070162c147c092995226a89cb14f8aaf61f9e51a4f", func := "tontine/tontinelaw9.ObjectApart", spec := "objectApart", inPlace := ["internal/reflectlite.TypeOf"], unfollowed := true, recurses := true, apart := false, narrowed := true }
def ObjectApartUptoSaid : Prop := objectApartUptoRow.holds Try.pinned (OpenSpec.upto objectApartSpec)

/-- 'tontinelaw9.ObjectDrops', WHERE WHAT IT READS IS OF BULK AT MOST 1048576: true; the input reads as it did. -/
def objectDropsUptoRow : OpenClaim := { program := "ytiejhnijfgdapaa", sum := "0d1eff2c0be59fe76ded02070162c147c092995226a89cb14f8aaf61f9e51a4f", func := "tontine/tontinelaw9.ObjectDrops", spec := "objectDrops", inPlace := ["internal/reflectlite.TypeOf"], unfollowed := true, recurses := true, apart := false, narrowed := true }
def ObjectDropsUptoSaid : Prop := objectDropsUptoRow.holds Try.pinned (OpenSpec.upto objectDropsSpec)

end Rows
end Go.Proofs.Ytiejhnijfgdapaa
