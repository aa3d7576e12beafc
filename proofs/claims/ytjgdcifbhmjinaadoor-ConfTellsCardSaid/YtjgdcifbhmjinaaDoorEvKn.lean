/- The law's 'known' is true: the evaluator says so, and what it says is so. -/
import Derived.Test.YtjgdcifbhmjinaaDoorEvIs
namespace Go.Proofs.YtjgdcifbhmjinaaDoor.EvX
open Go Go.RowKit Ev
noncomputable def evF (f : FuncId) : Option Func := Tryd.prog.funcs[f]?
theorem evNames : (Tryd.prog.funcs.toList.all fun fn => !(fn.name == "runtime.NumGoroutine")) = true := by decide +kernel
theorem evF_ok (f : FuncId) (fn : Func) (h : evF f = some fn) : Tryd.prog.funcs[f]? = some fn ∧ (fn.name == "runtime.NumGoroutine") = false := by
  refine ⟨h, ?_⟩
  have := List.all_eq_true.1 evNames fn (by
    have := Array.mem_of_getElem? h
    simpa using this)
  simpa using this
theorem evMixed : Tryd.prog.follows .mixedOrders = true := by kernel_rfl
def exIs : Ext := fun f args => match Nat.beq f 14 with
  | true => isX args
  | false => none
theorem exIs_ok : ExtOK Tryd.prog exIs := by
  intro f args v h
  unfold exIs at h
  split at h
  · rename_i hb
    obtain rfl := Nat.eq_of_beq_eq_true hb
    exact isX_ok args v h
  · cases h
theorem known_ev : truth Tryd.prog exIs evF 1000000 100 4 [] = true := by decide +kernel
theorem known_ok (w : World) : Calls Tryd.prog 4 #[] w fun e w' => e = .returned (.bool true) ∧ Below w.heap.size w w' :=
  truth_calls (P := Tryd.prog) evF_ok exIs_ok evMixed (truth_of known_ev) (xs := []) .nil
end Go.Proofs.YtjgdcifbhmjinaaDoor.EvX
