/- errors.Is of two errors that are nil or an Errno: they are the same, or they are not. Go's own text of errors.Is, errors.is is walked; then it is a contract that the evaluator knows. -/
import Derived.Test.YtjgdcifbhmjinaaDoorEv2
import Derived.Test.YtjgdcifbhmjinaaDoorProg
import Derived.KernelRfl
import Derived.Deep.RegionWith
import Derived.Stop.Asserts
import Derived.LaidEql
import Derived.WalkLawsBesides
import Derived.WalkSpells
import Derived.WalkKit
namespace Go.Proofs.YtjgdcifbhmjinaaDoor.EvX
open Go Go.RowKit Go.Extern.Stop Go.Stop Go.Extern
theorem EI.isTypeOf (v : Value) (w : World) : (Extern.ReflectliteType.typeOf #[.iface 42 v]).run Tryd.prog w = .ok (.iface 74 (.agg #[.pointer (some ⟨1, 42, none⟩)])) w := by kernel_rfl
theorem EI.isComparable (w : World) : ((Extern.ReflectliteType.method fun t => do Go.Extern.Rtype.noPackHeld "Comparable" t; (fun a => Value.bool a.comparable) <$> typeInfo t) #[.agg #[.pointer (some ⟨1, 42, none⟩)]]).run Tryd.prog w = .ok (.bool true) w := by kernel_rfl
theorem EI.isMethodComparable (v : Value) (w : World) : (Go.method 220 74 v "Comparable").run Tryd.prog w = .ok (71, v) w := by kernel_rfl
theorem EI.noIsE (v : Value) (xT : TypeId) (w : World) : (Instr.typeAssert (.iface 42 v) xT 76 true).run Tryd.prog w = .ok (.tuple #[.nilIface, .bool false]) w := run_typeAssert_lacksB Tryd.underlying76 (by kernel_rfl) (by kernel_rfl) v xT w
theorem EI.noUnwrapE (v : Value) (xT : TypeId) (w : World) : (Instr.typeAssert (.iface 42 v) xT 79 true).run Tryd.prog w = .ok (.tuple #[.nilIface, .bool false]) w := run_typeAssert_lacksB Tryd.underlying79 (by kernel_rfl) (by kernel_rfl) v xT w
theorem EI.noUnwrapsE (v : Value) (xT : TypeId) (w : World) : (Instr.typeAssert (.iface 42 v) xT 81 true).run Tryd.prog w = .ok (.tuple #[.nilIface, .bool false]) w := run_typeAssert_lacksB Tryd.underlying81 (by kernel_rfl) (by kernel_rfl) v xT w
theorem EI.eql2 (a b : Int) (w : World) : (binOp .eql 30 (.iface 42 (.int .i64 a)) (.iface 42 (.int .i64 b))).run Tryd.prog w = .ok (.bool (a == b)) w := by kernel_rfl
set_option maxRecDepth 100000 in
set_option maxHeartbeats 1000000 in
theorem EI.some_some (a b : Int) (w : World) :
    Calls Tryd.prog 14 #[.iface 42 (.int .i64 a), .iface 42 (.int .i64 b)] w fun e w' => e = .returned (.bool (a == b)) ∧ w' = w := by
  have h8 := @run_callFunc_extern Tryd.prog 30 _ Extern.ReflectliteType.typeOf Tryd.func30 (by kernel_rfl) (by kernel_rfl) (by kernel_rfl) (by kernel_rfl)
  have h32 := @run_callFunc_extern Tryd.prog 71 _ (Extern.ReflectliteType.method fun t => do Go.Extern.Rtype.noPackHeld "Comparable" t; pure (.bool (← typeInfo t).comparable)) Tryd.func71 (by kernel_rfl) (by kernel_rfl) (by kernel_rfl) (by kernel_rfl)
  have tT := EI.isTypeOf
  have cT := EI.isComparable
  have mR := EI.isMethodComparable
  have nE := EI.noIsE
  have uE := EI.noUnwrapE
  have vE := EI.noUnwrapsE
  have heq := EI.eql2 a b w
  by_cases hab : (a == b) = true
  · rw [hab] at heq ⊢
    go_enter Tryd.func14, Tryd.ntmps14
    go_wp2
    refine wp_loop_rounds 1 ?_
    rw [rounds_succ]
    go_wp2
    go_ret
    exact ⟨rfl, rfl⟩
  · have hab' : (a == b) = false := by simpa using hab
    rw [hab'] at heq ⊢
    go_enter Tryd.func14, Tryd.ntmps14
    go_wp2
    refine wp_loop_rounds 1 ?_
    rw [rounds_succ]
    go_wp2
    go_ret
    exact ⟨rfl, rfl⟩
theorem EI.nil_some (b : Int) (w : World) :
    Calls Tryd.prog 14 #[.nilIface, .iface 42 (.int .i64 b)] w fun e w' => e = .returned (.bool false) ∧ w' = w := by
  have hn := run_eql_iface_nil_left (P := Tryd.prog) w 42 (.int .i64 b) Tryd.underlying30
  go_enter Tryd.func14, Tryd.ntmps14
  go_wp2
  go_ret
  exact ⟨rfl, rfl⟩
open Ev
/-- errors.Is, as the evaluator knows it. -/
def isX (args : List Val) : Option Val := match args with
  | [.sc .nilIface, .ifc t (.sc (.int .i64 _))] => match Nat.beq t 42 with
    | true => some (.sc (.bool false))
    | false => none
  | [.ifc s (.sc (.int .i64 a)), .ifc t (.sc (.int .i64 b))] => match Nat.beq s 42 && Nat.beq t 42 with
    | true => some (.sc (.bool (a == b)))
    | false => none
  | _ => none
theorem isX_ok (args : List Val) (v : Val) (h : isX args = some v) : (∃ fn, Tryd.prog.funcs[14]? = some fn ∧ fn.body.isSome = true ∧ (fn.name == "runtime.NumGoroutine") = false) ∧
    ∀ (ρ : Rho) (I : Im) (w : World) (xs : List Value), VRs ρ I args xs → Calls Tryd.prog 14 xs.toArray w fun e w' => ∃ x, e = .returned x ∧ VR ρ I v x ∧ Below w.heap.size w w' := by
  refine ⟨⟨_, Tryd.func14, by kernel_rfl, by kernel_rfl⟩, fun ρ I w xs hv => ?_⟩
  unfold isX at h
  split at h
  · rename_i t b
    split at h
    · rename_i hb
      obtain rfl := Nat.eq_of_beq_eq_true hb
      simp only [Option.some.injEq] at h
      subst h
      cases hv with
      | cons h1 h2 =>
        cases h2 with
        | cons h2 h3 =>
          cases h3
          cases h1
          cases h2 with
          | ifc h2 =>
            cases h2
            refine (EI.nil_some b w).mono ?_
            rintro e w' ⟨rfl, rfl⟩
            exact ⟨_, rfl, .sc, Below.refl _ _⟩
    · cases h
  · rename_i s a t b
    split at h
    · rename_i hb
      simp only [Bool.and_eq_true] at hb
      obtain ⟨h1, h2⟩ := hb
      obtain rfl := Nat.eq_of_beq_eq_true h1
      obtain rfl := Nat.eq_of_beq_eq_true h2
      simp only [Option.some.injEq] at h
      subst h
      cases hv with
      | cons h1 h2 =>
        cases h2 with
        | cons h2 h3 =>
          cases h3
          cases h1 with
          | ifc h1 =>
            cases h1
            cases h2 with
            | ifc h2 =>
              cases h2
              refine (EI.some_some a b w).mono ?_
              rintro e w' ⟨rfl, rfl⟩
              exact ⟨_, rfl, .sc, Below.refl _ _⟩
    · cases h
  · cases h
end Go.Proofs.YtjgdcifbhmjinaaDoor.EvX
