/- Printed by a program of this workplace (a turned copy of the kit's optional print), out of the translation; not trusted: Lean checks it. -/
import Derived.Test.YtiejhnijfgdapaaPx0
import Derived.Test.YtiejhnijfgdapaaOpens
import Derived.KernelRfl
namespace Go.Proofs.Ytiejhnijfgdapaa.P
open Go.RowKit Go.Proofs.YtiejhnijfgdapaaW.PrintWords Go.Proofs.YtiejhnijfgdapaaW.PrintLast Go.Proofs.YtiejhnijfgdapaaW.PrintMore Go.Proofs.Ytiejhnijfgdapaa.Opens
set_option linter.unusedVariables false
set_option linter.unusedSimpArgs false
theorem rd3 : Opens Try.prog 3 (Kd.int .i64) (fun x => (-9223372036854775808 ≤ x ∧ x ≤ 9223372036854775807)) := opens_imp (fun _ h => wf_i64 h) (opens_int Try.underlying3)
def wf59 (x : S59) : Prop := (-9223372036854775808 ≤ x.f0 ∧ x.f0 ≤ 9223372036854775807) ∧ (-9223372036854775808 ≤ x.f1 ∧ x.f1 ≤ 9223372036854775807) ∧ (-9223372036854775808 ≤ x.f2 ∧ x.f2 ≤ 9223372036854775807)
theorem rd59 : Opens Try.prog 59 k59 wf59 := opens_imp (fun _ h => h) (opens_iso (fun p => ⟨p.1, p.2.1, p.2.2⟩) (fun _ => rfl) (opens_struct Try.underlying59 (by kernel_rfl) (opensL_cons rd3 (opensL_cons rd3 (opensL_one rd3)))))
theorem rd57 : Opens Try.prog 57 (Kd.slice 59 k59) (fun x => (x.length ≤ 9223372036854775807 ∧ ∀ y ∈ x, wf59 y)) := opens_slice Try.underlying57 (by kernel_rfl) rd59
end Go.Proofs.Ytiejhnijfgdapaa.P
