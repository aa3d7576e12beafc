/- errors.Is of two errors that are nil or an Errno: they are the same, or they are not. Go's own text of errors.Is, errors.is is walked. -/
import Derived.Test.YtiejhnijfgdapaaPx0
import Derived.Deep.RegionWith
import Derived.Stop.Asserts
import Derived.LaidEql
import Derived.WalkLawsBesides
import Derived.WalkSpells
namespace Go.Proofs.Ytiejhnijfgdapaa.P
open Go Go.RowKit Go.Extern.Stop Go.Stop Go.Extern Go.Proofs.YtiejhnijfgdapaaW.PrintWords
def errors_Is.f (a b : Option Int) : Option Bool := match b with | none => none | some _ => some (decide (a = b))
theorem EI.isTypeOf (v : Value) (w : World) : (Extern.ReflectliteType.typeOf #[.iface 42 v]).run Try.prog w = .ok (.iface 85 (.agg #[.pointer (some ⟨0, 42, none⟩)])) w := by kernel_rfl
theorem EI.isComparable (w : World) : ((Extern.ReflectliteType.method fun t => do Go.Extern.Rtype.noPackHeld "Comparable" t; (fun a => Value.bool a.comparable) <$> typeInfo t) #[.agg #[.pointer (some ⟨0, 42, none⟩)]]).run Try.prog w = .ok (.bool true) w := by kernel_rfl
theorem EI.isMethodComparable (v : Value) (w : World) : (Go.method 228 85 v "Comparable").run Try.prog w = .ok (58, v) w := by kernel_rfl
theorem EI.noIsE (v : Value) (xT : TypeId) (w : World) : (Instr.typeAssert (.iface 42 v) xT 87 true).run Try.prog w = .ok (.tuple #[.nilIface, .bool false]) w := run_typeAssert_lacksB Try.underlying87 (by kernel_rfl) (by kernel_rfl) v xT w
theorem EI.noUnwrapE (v : Value) (xT : TypeId) (w : World) : (Instr.typeAssert (.iface 42 v) xT 90 true).run Try.prog w = .ok (.tuple #[.nilIface, .bool false]) w := run_typeAssert_lacksB Try.underlying90 (by kernel_rfl) (by kernel_rfl) v xT w
theorem EI.noUnwrapsE (v : Value) (xT : TypeId) (w : World) : (Instr.typeAssert (.iface 42 v) xT 91 true).run Try.prog w = .ok (.tuple #[.nilIface, .bool false]) w := run_typeAssert_lacksB Try.underlying91 (by kernel_rfl) (by kernel_rfl) v xT w
theorem EI.eql (a b : Int) (w : World) : (eqGuard .eql 37 (.tmp 0) (.tmp 1) (.iface 42 (.int .i64 a)) (.iface 42 (.int .i64 b))).run Try.prog w = .ok () w := by kernel_rfl
theorem EI.eql2 (a b : Int) (w : World) : (binOp .eql 37 (.iface 42 (.int .i64 a)) (.iface 42 (.int .i64 b))).run Try.prog w = .ok (.bool (a == b)) w := by kernel_rfl
set_option maxRecDepth 100000 in
set_option maxHeartbeats 1000000 in
theorem EI.some_some (a b : Int) (w : World) :
    Calls Try.prog 19 #[.iface 42 (.int .i64 a), .iface 42 (.int .i64 b)] w fun e w' => e = .returned (.bool (a == b)) ∧ w' = w := by
  have h8 := @run_callFunc_extern Try.prog 28 _ Extern.ReflectliteType.typeOf Try.func28 (by kernel_rfl) (by kernel_rfl) (by kernel_rfl) (by kernel_rfl)
  have h32 := @run_callFunc_extern Try.prog 58 _ (Extern.ReflectliteType.method fun t => do Go.Extern.Rtype.noPackHeld "Comparable" t; pure (.bool (← typeInfo t).comparable)) Try.func58 (by kernel_rfl) (by kernel_rfl) (by kernel_rfl) (by kernel_rfl)
  have tT := EI.isTypeOf
  have cT := EI.isComparable
  have mR := EI.isMethodComparable
  have nE := EI.noIsE
  have uE := EI.noUnwrapE
  have vE := EI.noUnwrapsE
  have heq := EI.eql2 a b w
  by_cases hab : (a == b) = true
  · rw [hab] at heq ⊢
    go_enter Try.func19, Try.ntmps19
    go_wp2
    refine wp_loop_rounds 1 ?_
    rw [rounds_succ]
    go_wp2
    go_ret
    exact ⟨rfl, rfl⟩
  · have hab' : (a == b) = false := by simpa using hab
    rw [hab'] at heq ⊢
    go_enter Try.func19, Try.ntmps19
    go_wp2
    refine wp_loop_rounds 1 ?_
    rw [rounds_succ]
    go_wp2
    go_ret
    exact ⟨rfl, rfl⟩
theorem EI.nil_some (b : Int) (w : World) :
    Calls Try.prog 19 #[.nilIface, .iface 42 (.int .i64 b)] w fun e w' => e = .returned (.bool false) ∧ w' = w := by
  have hn := run_eql_iface_nil_left (P := Try.prog) w 42 (.int .i64 b) Try.underlying37
  go_enter Try.func19, Try.ntmps19
  go_wp2
  go_ret
  exact ⟨rfl, rfl⟩
theorem errors_Is.calls (a0 a1 : Option Int) (r : Bool) (w : World) (h : errors_Is.f a0 a1 = some r) :
    Calls Try.prog 19 #[errW a0, errW a1] w fun e w' => e = .returned (.bool r) ∧ Drawn0 w w' := by
  cases a1 with
  | none => simp [errors_Is.f] at h
  | some b =>
    simp only [errors_Is.f, Option.some.injEq] at h
    subst h
    cases a0 with
    | none =>
      refine (EI.nil_some b w).mono ?_
      rintro e w' ⟨rfl, rfl⟩
      exact ⟨rfl, Drawn0.refl _⟩
    | some a =>
      refine (EI.some_some a b w).mono ?_
      rintro e w' ⟨rfl, rfl⟩
      exact ⟨by by_cases hab : a = b <;> simp [hab], Drawn0.refl _⟩
end Go.Proofs.Ytiejhnijfgdapaa.P
