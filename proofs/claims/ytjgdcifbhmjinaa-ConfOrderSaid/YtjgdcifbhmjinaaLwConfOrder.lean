/- ConfOrder, out of the evaluator: of all sixteen inputs. -/
import Derived.Test.YtjgdcifbhmjinaaEvKn
namespace Go.Proofs.Ytjgdcifbhmjinaa.P
open Go Go.RowKit Go.Proofs.Ytjgdcifbhmjinaa.Ev Go.Proofs.Ytjgdcifbhmjinaa.EvX
theorem confOrder_ev : ∀ a b c d : Bool, truth Try.prog exK evF 1000000 100 11 [.sc (.bool a), .sc (.bool b), .sc (.bool c), .sc (.bool d)] = true := by decide +kernel
def ext_11.f (_ _ _ _ : Bool) : Option Bool := some true
theorem ext_11.calls (a b c d : Bool) (r : Bool) (_hrt : r = true) (w : World) (h : ext_11.f a b c d = some r) :
    Calls Try.prog 11 #[.bool a, .bool b, .bool c, .bool d] w fun e w' => e = .returned (.bool r) ∧ Below w.heap.size w w' := by
  obtain rfl := Option.some.inj h
  exact truth_calls (P := Try.prog) evF_ok exK_ok evMixed (truth_of (confOrder_ev a b c d)) (xs := [.bool a, .bool b, .bool c, .bool d]) (.cons .sc (.cons .sc (.cons .sc (.cons .sc .nil))))
end Go.Proofs.Ytjgdcifbhmjinaa.P
