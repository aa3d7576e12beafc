/- Printed by a program of this workplace (a turned copy of the kit's optional print), out of the translation; not trusted: Lean checks it. -/
import Derived.Test.YtiejhnijfgdapaaPx0
import Derived.Test.YtiejhnijfgdapaaOpens
import Derived.KernelRfl
namespace Go.Proofs.Ytiejhnijfgdapaa.P
open Go.RowKit Go.Proofs.YtiejhnijfgdapaaW.PrintWords Go.Proofs.YtiejhnijfgdapaaW.PrintLast Go.Proofs.YtiejhnijfgdapaaW.PrintMore Go.Proofs.Ytiejhnijfgdapaa.Opens
set_option linter.unusedVariables false
set_option linter.unusedSimpArgs false
theorem rd3 : Opens Try.prog 3 (Kd.int .i64) (fun x => (-9223372036854775808 ≤ x ∧ x ≤ 9223372036854775807)) := opens_imp (fun _ h => wf_i64 h) (opens_int Try.underlying3)
def wf46 (x : S46) : Prop := (-9223372036854775808 ≤ x.f0 ∧ x.f0 ≤ 9223372036854775807) ∧ (-9223372036854775808 ≤ x.f1 ∧ x.f1 ≤ 9223372036854775807)
theorem rd46 : Opens Try.prog 46 k46 wf46 := opens_imp (fun _ h => h) (opens_iso (fun p => ⟨p.1, p.2⟩) (fun _ => rfl) (opens_struct Try.underlying46 (by kernel_rfl) (opensL_cons rd3 (opensL_one rd3))))
theorem rd44 : Opens Try.prog 44 (Kd.slice 46 k46) (fun x => (x.length ≤ 9223372036854775807 ∧ ∀ y ∈ x, wf46 y)) := opens_slice Try.underlying44 (by kernel_rfl) rd46
theorem rd22 : Opens Try.prog 22 (Kd.slice 3 (Kd.int .i64)) (fun x => (x.length ≤ 9223372036854775807 ∧ ∀ y ∈ x, (-9223372036854775808 ≤ y ∧ y ≤ 9223372036854775807))) := opens_slice Try.underlying22 (by kernel_rfl) rd3
theorem rd29 : Opens Try.prog 29 (Kd.int .u64) (fun x => (0 ≤ x ∧ x ≤ 18446744073709551615)) := opens_imp (fun _ h => wf_u64 h) (opens_int Try.underlying29)
theorem rd23 : Opens Try.prog 23 (Kd.slice 29 (Kd.int .u64)) (fun x => (x.length ≤ 9223372036854775807 ∧ ∀ y ∈ x, (0 ≤ y ∧ y ≤ 18446744073709551615))) := opens_slice Try.underlying23 (by kernel_rfl) rd29
end Go.Proofs.Ytiejhnijfgdapaa.P
