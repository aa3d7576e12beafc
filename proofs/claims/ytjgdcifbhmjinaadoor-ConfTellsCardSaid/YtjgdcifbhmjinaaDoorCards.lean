/-
  DERIVED. GIVEN WITH THE SEED: THE CARDS: each row of YtjgdcifbhmjinaaDoorRows.lean that lists a variable, with what it lists TIED to the program's text (the seventh form; the later family's looks); each row that meets fmt, with fmt's text TOLD by the authors' own Lean function (tested against real Go, not proved from fmt's source: count such statements apart). THE CARD IS WHAT COUNTS. Prove the row's statement (the work); the ties are given (YtjgdcifbhmjinaaDoorTie.lean); close each card by the builder's one call (the guide's Derived/Test/ToyasCard.lean, 'card_holds'). Laid BY PROGRAM, IN A SANDBOX (cutbox-door.mjs). By AI agents, Wed Nov 11 2026. No macro, syntax, notation, axiom, sorry.
-/
import Derived.Test.YtjgdcifbhmjinaaDoorRows
import GoSem.ClaimSeven
namespace Go.Proofs.YtjgdcifbhmjinaaDoor
namespace Rows

/-- THE TIED CARD OF 'tontinelaw3.ConfTells'. -/
def confTellsCard : Claim7 := { stood := { row := confTellsRow, standIns := [], harness := (true, "1fa930a1ed7ec1cab03beff2208e8ab2127b697f006fec20237d31830651b668"), looks := true }, kinds := [], alts := [], laidByText := true, laidKinds := [.handle], laidTests := true, laidLooks := .later }
def ConfTellsCardSaid : Prop := Claim7.holds Tryd.pinned (.plain (OpenSpec.ofChange confTellsSpec)) confTellsCard

/-- THE SECOND FORM's CARD OF 'tontinelaw3.ConfTells'. -/
def confTellsUptoCard : Claim7 := { stood := { row := confTellsUptoRow, standIns := [], harness := (true, "1fa930a1ed7ec1cab03beff2208e8ab2127b697f006fec20237d31830651b668"), looks := true }, kinds := [], alts := [], laidByText := true, laidKinds := [.handle], laidTests := true, laidLooks := .later }
def ConfTellsUptoCardSaid : Prop := Claim7.holds Tryd.pinned (.plain (OpenSpec.upto confTellsSpec)) confTellsUptoCard
end Rows
end Go.Proofs.YtjgdcifbhmjinaaDoor
