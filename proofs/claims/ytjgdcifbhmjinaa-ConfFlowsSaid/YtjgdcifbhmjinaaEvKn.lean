/- The law's 'known' is true: the evaluator says so, and what it says is so. -/
import Derived.Test.YtjgdcifbhmjinaaEvIs
namespace Go.Proofs.Ytjgdcifbhmjinaa.EvX
open Go Go.RowKit Ev
noncomputable def evF (f : FuncId) : Option Func := Try.prog.funcs[f]?
theorem evNames : (Try.prog.funcs.toList.all fun fn => !(fn.name == "runtime.NumGoroutine")) = true := by decide +kernel
theorem evF_ok (f : FuncId) (fn : Func) (h : evF f = some fn) : Try.prog.funcs[f]? = some fn ∧ (fn.name == "runtime.NumGoroutine") = false := by
  refine ⟨h, ?_⟩
  have := List.all_eq_true.1 evNames fn (by
    have := Array.mem_of_getElem? h
    simpa using this)
  simpa using this
theorem evMixed : Try.prog.follows .mixedOrders = true := by kernel_rfl
def exIs : Ext := fun f args => match Nat.beq f 25 with
  | true => isX args
  | false => none
theorem exIs_ok : ExtOK Try.prog exIs := by
  intro f args v h
  unfold exIs at h
  split at h
  · rename_i hb
    obtain rfl := Nat.eq_of_beq_eq_true hb
    exact isX_ok args v h
  · cases h
theorem known_ev : truth Try.prog exIs evF 1000000 100 23 [] = true := by decide +kernel
theorem known_ok (w : World) : Calls Try.prog 23 #[] w fun e w' => e = .returned (.bool true) ∧ Below w.heap.size w w' :=
  truth_calls (P := Try.prog) evF_ok exIs_ok evMixed (truth_of known_ev) (xs := []) .nil
/-- Beside errors.Is: known. -/
def exK : Ext := fun f args => match Nat.beq f 23, args with
  | true, [] => some (.sc (.bool true))
  | _, _ => exIs f args
theorem exK_ok : ExtOK Try.prog exK := by
  intro f args v h
  unfold exK at h
  split at h
  · rename_i hb
    obtain rfl := Nat.eq_of_beq_eq_true hb
    simp only [Option.some.injEq] at h
    subst h
    refine ⟨⟨_, Try.func23, by kernel_rfl, by kernel_rfl⟩, fun ρ I w xs hv => ?_⟩
    cases hv
    refine (known_ok w).mono ?_
    rintro e w' ⟨rfl, hb⟩
    exact ⟨_, rfl, .sc, hb⟩
  · exact exIs_ok f _ v h
end Go.Proofs.Ytjgdcifbhmjinaa.EvX
