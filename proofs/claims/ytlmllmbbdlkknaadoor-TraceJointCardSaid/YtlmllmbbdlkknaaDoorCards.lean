/-
  DERIVED. GIVEN WITH THE SEED: THE CARDS: each row of YtlmllmbbdlkknaaDoorRows.lean that lists a variable, with what it lists TIED to the program's text (the seventh form; the later family's looks); each row that meets fmt, with fmt's text TOLD by the authors' own Lean function (tested against real Go, not proved from fmt's source: count such statements apart). THE CARD IS WHAT COUNTS. Prove the row's statement (the work); the ties are given (YtlmllmbbdlkknaaDoorTie.lean); close each card by the builder's one call (the guide's Derived/Test/ToyasCard.lean, 'card_holds'). Laid BY PROGRAM, IN A SANDBOX (cutbox-door.mjs). By AI agents, Wed Nov 11 2026. No macro, syntax, notation, axiom, sorry.
-/
import Derived.Test.YtlmllmbbdlkknaaDoorRows
import GoSem.ClaimSeven
namespace Go.Proofs.YtlmllmbbdlkknaaDoor
namespace Rows

/-- THE TIED CARD OF 'tontinelaw24.TraceTells'. -/
def traceTellsCard : Claim7 := { stood := { row := traceTellsRow, standIns := [], harness := (true, "bf269c0dfe6d0a66037143f275602fc3a222d1ec10bd94ad130eacb10900a952"), looks := false }, kinds := [], alts := [], laidByText := true, laidKinds := [.data, .data, .data], laidTests := true, laidLooks := .later }
def TraceTellsCardSaid : Prop := Claim7.holds Tryd.pinned (.plain (OpenSpec.ofChange traceTellsSpec)) traceTellsCard

/-- THE TIED CARD OF 'tontinelaw24.TraceUnlike'. -/
def traceUnlikeCard : Claim7 := { stood := { row := traceUnlikeRow, standIns := [], harness := (true, "bf269c0dfe6d0a66037143f275602fc3a222d1ec10bd94ad130eacb10900a952"), looks := false }, kinds := [], alts := [], laidByText := true, laidKinds := [.data, .data, .data], laidTests := true, laidLooks := .later }
def TraceUnlikeCardSaid : Prop := Claim7.holds Tryd.pinned (.plain (OpenSpec.ofChange traceUnlikeSpec)) traceUnlikeCard

/-- THE TIED CARD OF 'tontinelaw24.TraceJoint'. -/
def traceJointCard : Claim7 := { stood := { row := traceJointRow, standIns := [], harness := (true, "bf269c0dfe6d0a66037143f275602fc3a222d1ec10bd94ad130eacb10900a952"), looks := false }, kinds := [], alts := [], laidByText := true, laidKinds := [.data, .data, .data], laidTests := true, laidLooks := .later }
def TraceJointCardSaid : Prop := Claim7.holds Tryd.pinned (.plain (OpenSpec.ofChange traceJointSpec)) traceJointCard

/-- THE TIED CARD OF 'tontinelaw24.TraceBelow'. -/
def traceBelowCard : Claim7 := { stood := { row := traceBelowRow, standIns := [], harness := (true, "bf269c0dfe6d0a66037143f275602fc3a222d1ec10bd94ad130eacb10900a952"), looks := false }, kinds := [], alts := [], laidByText := true, laidKinds := [.data, .data, .data], laidTests := true, laidLooks := .later }
def TraceBelowCardSaid : Prop := Claim7.holds Tryd.pinned (.plain (OpenSpec.ofChange traceBelowSpec)) traceBelowCard

/-- THE SECOND FORM's CARD OF 'tontinelaw24.TraceTells'. -/
def traceTellsUptoCard : Claim7 := { stood := { row := traceTellsUptoRow, standIns := [], harness := (true, "bf269c0dfe6d0a66037143f275602fc3a222d1ec10bd94ad130eacb10900a952"), looks := false }, kinds := [], alts := [], laidByText := true, laidKinds := [.data, .data, .data], laidTests := true, laidLooks := .later }
def TraceTellsUptoCardSaid : Prop := Claim7.holds Tryd.pinned (.plain (OpenSpec.upto traceTellsSpec)) traceTellsUptoCard

/-- THE SECOND FORM's CARD OF 'tontinelaw24.TraceUnlike'. -/
def traceUnlikeUptoCard : Claim7 := { stood := { row := traceUnlikeUptoRow, standIns := [], harness := (true, "bf269c0dfe6d0a66037143f275602fc3a222d1ec10bd94ad130eacb10900a952"), looks := false }, kinds := [], alts := [], laidByText := true, laidKinds := [.data, .data, .data], laidTests := true, laidLooks := .later }
def TraceUnlikeUptoCardSaid : Prop := Claim7.holds Tryd.pinned (.plain (OpenSpec.upto traceUnlikeSpec)) traceUnlikeUptoCard

/-- THE SECOND FORM's CARD OF 'tontinelaw24.TraceJoint'. -/
def traceJointUptoCard : Claim7 := { stood := { row := traceJointUptoRow, standIns := [], harness := (true, "bf269c0dfe6d0a66037143f275602fc3a222d1ec10bd94ad130eacb10900a952"), looks := false }, kinds := [], alts := [], laidByText := true, laidKinds := [.data, .data, .data], laidTests := true, laidLooks := .later }
def TraceJointUptoCardSaid : Prop := Claim7.holds Tryd.pinned (.plain (OpenSpec.upto traceJointSpec)) traceJointUptoCard

/-- THE SECOND FORM's CARD OF 'tontinelaw24.TraceBelow'. -/
def traceBelowUptoCard : Claim7 := { stood := { row := traceBelowUptoRow, standIns := [], harness := (true, "bf269c0dfe6d0a66037143f275602fc3a222d1ec10bd94ad130eacb10900a952"), looks := false }, kinds := [], alts := [], laidByText := true, laidKinds := [.data, .data, .data], laidTests := true, laidLooks := .later }
def TraceBelowUptoCardSaid : Prop := Claim7.holds Tryd.pinned (.plain (OpenSpec.upto traceBelowSpec)) traceBelowUptoCard
end Rows
end Go.Proofs.YtlmllmbbdlkknaaDoor
