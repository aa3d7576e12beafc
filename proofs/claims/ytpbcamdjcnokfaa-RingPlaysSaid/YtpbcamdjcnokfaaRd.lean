/- Printed by a program of this workplace (a turned copy of the kit's optional print), out of the translation; not trusted: Lean checks it. -/
import Derived.Test.YtpbcamdjcnokfaaPx0
import Derived.Test.YtpbcamdjcnokfaaOpens
import Derived.KernelRfl
namespace Go.Proofs.Ytpbcamdjcnokfaa.P
open Go.RowKit Go.Proofs.YtpbcamdjcnokfaaW.PrintWords Go.Proofs.YtpbcamdjcnokfaaW.PrintLast Go.Proofs.YtpbcamdjcnokfaaW.PrintMore Go.Proofs.Ytpbcamdjcnokfaa.Opens
set_option linter.unusedVariables false
set_option linter.unusedSimpArgs false
theorem rd3 : Opens Try.prog 3 (Kd.int .i64) (fun x => (-9223372036854775808 ≤ x ∧ x ≤ 9223372036854775807)) := opens_imp (fun _ h => wf_i64 h) (opens_int Try.underlying3)
def wf43 (x : S43) : Prop := (-9223372036854775808 ≤ x.f0 ∧ x.f0 ≤ 9223372036854775807) ∧ (-9223372036854775808 ≤ x.f1 ∧ x.f1 ≤ 9223372036854775807) ∧ (-9223372036854775808 ≤ x.f2 ∧ x.f2 ≤ 9223372036854775807) ∧ (-9223372036854775808 ≤ x.f3 ∧ x.f3 ≤ 9223372036854775807)
theorem rd43 : Opens Try.prog 43 k43 wf43 := opens_imp (fun _ h => h) (opens_iso (fun p => ⟨p.1, p.2.1, p.2.2.1, p.2.2.2⟩) (fun _ => rfl) (opens_struct Try.underlying43 (by kernel_rfl) (opensL_cons rd3 (opensL_cons rd3 (opensL_cons rd3 (opensL_one rd3))))))
theorem rd35 : Opens Try.prog 35 (Kd.slice 43 k43) (fun x => (x.length ≤ 9223372036854775807 ∧ ∀ y ∈ x, wf43 y)) := opens_slice Try.underlying35 (by kernel_rfl) rd43
theorem rd36 : Opens Try.prog 36 (Kd.slice 3 (Kd.int .i64)) (fun x => (x.length ≤ 9223372036854775807 ∧ ∀ y ∈ x, (-9223372036854775808 ≤ y ∧ y ≤ 9223372036854775807))) := opens_slice Try.underlying36 (by kernel_rfl) rd3
theorem rd4 : Opens Try.prog 4 Kd.bool (fun x => True) := opens_bool Try.underlying4
theorem rd52 : Opens Try.prog 52 (Kd.slice 4 Kd.bool) (fun x => (x.length ≤ 9223372036854775807 ∧ ∀ y ∈ x, True)) := opens_slice Try.underlying52 (by kernel_rfl) rd4
end Go.Proofs.Ytpbcamdjcnokfaa.P
