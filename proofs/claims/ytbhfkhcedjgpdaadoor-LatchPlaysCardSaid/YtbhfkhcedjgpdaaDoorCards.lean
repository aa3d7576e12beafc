/-
  DERIVED. GIVEN WITH THE SEED: THE CARDS: each row of YtbhfkhcedjgpdaaDoorRows.lean that lists a variable, with what it lists TIED to the program's text (the seventh form; the later family's looks); each row that meets fmt, with fmt's text TOLD by the authors' own Lean function (tested against real Go, not proved from fmt's source: count such statements apart). THE CARD IS WHAT COUNTS. Prove the row's statement (the work); the ties are given (YtbhfkhcedjgpdaaDoorTie.lean); close each card by the builder's one call (the guide's Derived/Test/ToyasCard.lean, 'card_holds'). Laid BY PROGRAM, IN A SANDBOX (cutbox-door.mjs). By AI agents, Wed Nov 11 2026. No macro, syntax, notation, axiom, sorry.
-/
import Derived.Test.YtbhfkhcedjgpdaaDoorRows
import GoSem.ClaimSeven
namespace Go.Proofs.YtbhfkhcedjgpdaaDoor
namespace Rows

/-- THE TIED CARD OF 'tontinelaw20.CheckTells'. -/
def checkTellsCard : Claim7 := { stood := { row := checkTellsRow, standIns := [], harness := (true, "8dc80f85e93051bf9c80ddb72210f594574b861331c88d3cf95bbbbc671073ab"), looks := true }, kinds := [], alts := [], laidByText := true, laidKinds := [.handle], laidTests := true, laidLooks := .later }
def CheckTellsCardSaid : Prop := Claim7.holds Tryd.pinned (.plain (OpenSpec.ofChange checkTellsSpec)) checkTellsCard

/-- THE TIED CARD OF 'tontinelaw15.LatchPlays'. -/
def latchPlaysCard : Claim7 := { stood := { row := latchPlaysRow, standIns := [], harness := (true, "8dc80f85e93051bf9c80ddb72210f594574b861331c88d3cf95bbbbc671073ab"), looks := true }, kinds := [], alts := [], laidByText := true, laidKinds := [.handle], laidTests := true, laidLooks := .later }
def LatchPlaysCardSaid : Prop := Claim7.holds Tryd.pinned (.plain (OpenSpec.ofChange latchPlaysSpec)) latchPlaysCard

/-- THE SECOND FORM's CARD OF 'tontinelaw20.CheckTells'. -/
def checkTellsUptoCard : Claim7 := { stood := { row := checkTellsUptoRow, standIns := [], harness := (true, "8dc80f85e93051bf9c80ddb72210f594574b861331c88d3cf95bbbbc671073ab"), looks := true }, kinds := [], alts := [], laidByText := true, laidKinds := [.handle], laidTests := true, laidLooks := .later }
def CheckTellsUptoCardSaid : Prop := Claim7.holds Tryd.pinned (.plain (OpenSpec.upto checkTellsSpec)) checkTellsUptoCard

/-- THE SECOND FORM's CARD OF 'tontinelaw15.LatchPlays'. -/
def latchPlaysUptoCard : Claim7 := { stood := { row := latchPlaysUptoRow, standIns := [], harness := (true, "8dc80f85e93051bf9c80ddb72210f594574b861331c88d3cf95bbbbc671073ab"), looks := true }, kinds := [], alts := [], laidByText := true, laidKinds := [.handle], laidTests := true, laidLooks := .later }
def LatchPlaysUptoCardSaid : Prop := Claim7.holds Tryd.pinned (.plain (OpenSpec.upto latchPlaysSpec)) latchPlaysUptoCard
end Rows
end Go.Proofs.YtbhfkhcedjgpdaaDoor
