/-
  DERIVED. GIVEN WITH THE SEED: THE CARDS: each row of YtiejhnijfgdapaaDoorRows.lean that lists a variable, with what it lists TIED to the program's text (the seventh form; the later family's looks); each row that meets fmt, with fmt's text TOLD by the authors' own Lean function (tested against real Go, not proved from fmt's source: count such statements apart). THE CARD IS WHAT COUNTS. Prove the row's statement (the work); the ties are given (YtiejhnijfgdapaaDoorTie.lean); close each card by the builder's one call (the guide's Derived/Test/ToyasCard.lean, 'card_holds'). Laid BY PROGRAM, IN A SANDBOX (cutbox-door.mjs). By AI agents, Wed Nov 11 2026. No macro, syntax, notation, axiom, sorry.
-/
import Derived.Test.YtiejhnijfgdapaaDoorRows
import GoSem.ClaimSeven
namespace Go.Proofs.YtiejhnijfgdapaaDoor
namespace Rows

/-- THE TIED CARD OF 'tontinelaw2.WireTells'. -/
def wireTellsCard : Claim7 := { stood := { row := wireTellsRow, standIns := [], harness := (true, "4060dd61ac98c2c784533fe80c80f2846c2fdfbebf741da76419b1f30294a9c4"), looks := true }, kinds := [], alts := [], laidByText := true, laidKinds := [.handle], laidTests := true, laidLooks := .later }
def WireTellsCardSaid : Prop := Claim7.holds Tryd.pinned (.plain (OpenSpec.ofChange wireTellsSpec)) wireTellsCard

/-- THE TIED CARD OF 'tontinelaw9.ObjectPlays'. -/
def objectPlaysCard : Claim7 := { stood := { row := objectPlaysRow, standIns := [], harness := (true, "4060dd61ac98c2c784533fe80c80f2846c2fdfbebf741da76419b1f30294a9c4"), looks := true }, kinds := [], alts := [], laidByText := true, laidKinds := [.handle], laidTests := true, laidLooks := .later }
def ObjectPlaysCardSaid : Prop := Claim7.holds Tryd.pinned (.plain (OpenSpec.ofChange objectPlaysSpec)) objectPlaysCard

/-- THE SECOND FORM's CARD OF 'tontinelaw2.WireTells'. -/
def wireTellsUptoCard : Claim7 := { stood := { row := wireTellsUptoRow, standIns := [], harness := (true, "4060dd61ac98c2c784533fe80c80f2846c2fdfbebf741da76419b1f30294a9c4"), looks := true }, kinds := [], alts := [], laidByText := true, laidKinds := [.handle], laidTests := true, laidLooks := .later }
def WireTellsUptoCardSaid : Prop := Claim7.holds Tryd.pinned (.plain (OpenSpec.upto wireTellsSpec)) wireTellsUptoCard

/-- THE SECOND FORM's CARD OF 'tontinelaw9.ObjectPlays'. -/
def objectPlaysUptoCard : Claim7 := { stood := { row := objectPlaysUptoRow, standIns := [], harness := (true, "4060dd61ac98c2c784533fe80c80f2846c2fdfbebf741da76419b1f30294a9c4"), looks := true }, kinds := [], alts := [], laidByText := true, laidKinds := [.handle], laidTests := true, laidLooks := .later }
def ObjectPlaysUptoCardSaid : Prop := Claim7.holds Tryd.pinned (.plain (OpenSpec.upto objectPlaysSpec)) objectPlaysUptoCard
end Rows
end Go.Proofs.YtiejhnijfgdapaaDoor
