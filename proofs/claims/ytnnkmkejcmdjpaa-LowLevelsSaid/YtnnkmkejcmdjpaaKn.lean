/- The law's 'known' (which asks nothing of errors.Is), as a contract for the print: out of the evaluator. -/
import Derived.Test.YtnnkmkejcmdjpaaEvF
import Derived.Test.YtnnkmkejcmdjpaaProg
import Derived.KernelRfl
namespace Go.Proofs.Ytnnkmkejcmdjpaa.P
open Go Go.RowKit
noncomputable def evF (f : FuncId) : Option Func := Try.prog.funcs[f]?
theorem evNames : (Try.prog.funcs.toList.all fun fn => !(fn.name == "runtime.NumGoroutine")) = true := by decide +kernel
theorem evF_ok (f : FuncId) (fn : Func) (h : evF f = some fn) : Try.prog.funcs[f]? = some fn ∧ (fn.name == "runtime.NumGoroutine") = false := by
  refine ⟨h, ?_⟩
  have := List.all_eq_true.1 evNames fn (by
    have := Array.mem_of_getElem? h
    simpa using this)
  simpa using this
theorem evMixed : Try.prog.follows .mixedOrders = true := by kernel_rfl
def exNo : Ev.Ext := fun _ _ => none
theorem exNo_ok : Ev.ExtOK Try.prog exNo := by
  intro f args v h
  cases h
theorem known_ev : Ev.truth Try.prog exNo evF 1000000 100 7 [] = true := by decide +kernel
def ext_7.f : Option Bool := some true
theorem ext_7.calls (r : Bool) (_hrt : r = true) (w : World) (h : ext_7.f = some r) : Calls Try.prog 7 #[] w fun e w' => e = .returned (.bool r) ∧ Below w.heap.size w w' := by
  obtain rfl := Option.some.inj h
  exact Ev.truth_calls (P := Try.prog) evF_ok exNo_ok evMixed (Ev.truth_of known_ev) (xs := []) .nil
end Go.Proofs.Ytnnkmkejcmdjpaa.P
