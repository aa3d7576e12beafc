/- The law's 'known', as a contract for the print: out of the evaluator. -/
import Derived.Test.YtjgdcifbhmjinaaDoorEvKn
namespace Go.Proofs.YtjgdcifbhmjinaaDoor.P
open Go Go.RowKit
def ext_4.f : Option Bool := some true
theorem ext_4.calls (r : Bool) (_hrt : r = true) (w : World) (h : ext_4.f = some r) : Calls Tryd.prog 4 #[] w fun e w' => e = .returned (.bool r) ∧ Below w.heap.size w w' := by
  obtain rfl := Option.some.inj h
  exact EvX.known_ok w
end Go.Proofs.YtjgdcifbhmjinaaDoor.P
