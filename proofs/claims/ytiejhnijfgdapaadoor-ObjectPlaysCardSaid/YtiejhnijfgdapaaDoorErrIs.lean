/- errors.Is of two errors that are nil or an Errno: they are the same, or they are not. Go's own text of errors.Is, errors.is is walked. -/
import Derived.Test.YtiejhnijfgdapaaDoorPx0
import Derived.Deep.RegionWith
import Derived.Stop.Asserts
import Derived.LaidEql
import Derived.WalkLawsBesides
import Derived.WalkSpells
namespace Go.Proofs.YtiejhnijfgdapaaDoor.P
open Go Go.RowKit Go.Extern.Stop Go.Stop Go.Extern Go.Proofs.YtiejhnijfgdapaaDoorW.PrintWords
def errors_Is.f (a b : Option Int) : Option Bool := match b with | none => none | some _ => some (decide (a = b))
theorem EI.isTypeOf (v : Value) (w : World) : (Extern.ReflectliteType.typeOf #[.iface 71 v]).run Tryd.prog w = .ok (.iface 108 (.agg #[.pointer (some ⟨1, 71, none⟩)])) w := by kernel_rfl
theorem EI.isComparable (w : World) : ((Extern.ReflectliteType.method fun t => do Go.Extern.Rtype.noPackHeld "Comparable" t; (fun a => Value.bool a.comparable) <$> typeInfo t) #[.agg #[.pointer (some ⟨1, 71, none⟩)]]).run Tryd.prog w = .ok (.bool true) w := by kernel_rfl
theorem EI.isMethodComparable (v : Value) (w : World) : (Go.method 251 108 v "Comparable").run Tryd.prog w = .ok (78, v) w := by kernel_rfl
theorem EI.noIsE (v : Value) (xT : TypeId) (w : World) : (Instr.typeAssert (.iface 71 v) xT 110 true).run Tryd.prog w = .ok (.tuple #[.nilIface, .bool false]) w := run_typeAssert_lacksB Tryd.underlying110 (by kernel_rfl) (by kernel_rfl) v xT w
theorem EI.noUnwrapE (v : Value) (xT : TypeId) (w : World) : (Instr.typeAssert (.iface 71 v) xT 113 true).run Tryd.prog w = .ok (.tuple #[.nilIface, .bool false]) w := run_typeAssert_lacksB Tryd.underlying113 (by kernel_rfl) (by kernel_rfl) v xT w
theorem EI.noUnwrapsE (v : Value) (xT : TypeId) (w : World) : (Instr.typeAssert (.iface 71 v) xT 114 true).run Tryd.prog w = .ok (.tuple #[.nilIface, .bool false]) w := run_typeAssert_lacksB Tryd.underlying114 (by kernel_rfl) (by kernel_rfl) v xT w
theorem EI.eql2 (a b : Int) (w : World) : (binOp .eql 43 (.iface 71 (.int .i64 a)) (.iface 71 (.int .i64 b))).run Tryd.prog w = .ok (.bool (a == b)) w := by kernel_rfl
set_option maxRecDepth 100000 in
set_option maxHeartbeats 1000000 in
theorem EI.some_some (a b : Int) (w : World) :
    Calls Tryd.prog 32 #[.iface 71 (.int .i64 a), .iface 71 (.int .i64 b)] w fun e w' => e = .returned (.bool (a == b)) ∧ w' = w := by
  have h8 := @run_callFunc_extern Tryd.prog 44 _ Extern.ReflectliteType.typeOf Tryd.func44 (by kernel_rfl) (by kernel_rfl) (by kernel_rfl) (by kernel_rfl)
  have h32 := @run_callFunc_extern Tryd.prog 78 _ (Extern.ReflectliteType.method fun t => do Go.Extern.Rtype.noPackHeld "Comparable" t; pure (.bool (← typeInfo t).comparable)) Tryd.func78 (by kernel_rfl) (by kernel_rfl) (by kernel_rfl) (by kernel_rfl)
  have tT := EI.isTypeOf
  have cT := EI.isComparable
  have mR := EI.isMethodComparable
  have nE := EI.noIsE
  have uE := EI.noUnwrapE
  have vE := EI.noUnwrapsE
  have heq := EI.eql2 a b w
  by_cases hab : (a == b) = true
  · rw [hab] at heq ⊢
    go_enter Tryd.func32, Tryd.ntmps32
    go_wp2
    refine wp_loop_rounds 1 ?_
    rw [rounds_succ]
    go_wp2
    go_ret
    exact ⟨rfl, rfl⟩
  · have hab' : (a == b) = false := by simpa using hab
    rw [hab'] at heq ⊢
    go_enter Tryd.func32, Tryd.ntmps32
    go_wp2
    refine wp_loop_rounds 1 ?_
    rw [rounds_succ]
    go_wp2
    go_ret
    exact ⟨rfl, rfl⟩
theorem EI.nil_some (b : Int) (w : World) :
    Calls Tryd.prog 32 #[.nilIface, .iface 71 (.int .i64 b)] w fun e w' => e = .returned (.bool false) ∧ w' = w := by
  have hn := run_eql_iface_nil_left (P := Tryd.prog) w 71 (.int .i64 b) Tryd.underlying43
  go_enter Tryd.func32, Tryd.ntmps32
  go_wp2
  go_ret
  exact ⟨rfl, rfl⟩
theorem errors_Is.calls (a0 a1 : Option Int) (r : Bool) (w : World) (h : errors_Is.f a0 a1 = some r) :
    Calls Tryd.prog 32 #[errW a0, errW a1] w fun e w' => e = .returned (.bool r) ∧ Drawn0 w w' := by
  cases a1 with
  | none => simp [errors_Is.f] at h
  | some b =>
    simp only [errors_Is.f, Option.some.injEq] at h
    subst h
    cases a0 with
    | none =>
      refine (EI.nil_some b w).mono ?_
      rintro e w' ⟨rfl, rfl⟩
      exact ⟨rfl, Drawn0.refl _⟩
    | some a =>
      refine (EI.some_some a b w).mono ?_
      rintro e w' ⟨rfl, rfl⟩
      exact ⟨by by_cases hab : a = b <;> simp [hab], Drawn0.refl _⟩
end Go.Proofs.YtiejhnijfgdapaaDoor.P
