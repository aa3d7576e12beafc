/- Printed by a program of this workplace (a turned copy of the kit's optional print), out of the translation; not trusted: Lean checks it. -/
import Derived.Test.YtpbcamdjcnokfaaPx0
import Derived.Test.YtpbcamdjcnokfaaOpens
import Derived.KernelRfl
namespace Go.Proofs.Ytpbcamdjcnokfaa.P
open Go.RowKit Go.Proofs.YtpbcamdjcnokfaaW.PrintWords Go.Proofs.YtpbcamdjcnokfaaW.PrintLast Go.Proofs.YtpbcamdjcnokfaaW.PrintMore Go.Proofs.Ytpbcamdjcnokfaa.Opens
set_option linter.unusedVariables false
set_option linter.unusedSimpArgs false
theorem rd3 : Opens Try.prog 3 (Kd.int .i64) (fun x => (-9223372036854775808 ≤ x ∧ x ≤ 9223372036854775807)) := opens_imp (fun _ h => wf_i64 h) (opens_int Try.underlying3)
def wf61 (x : S61) : Prop := (-9223372036854775808 ≤ x.f0 ∧ x.f0 ≤ 9223372036854775807) ∧ (-9223372036854775808 ≤ x.f1 ∧ x.f1 ≤ 9223372036854775807) ∧ (-9223372036854775808 ≤ x.f2 ∧ x.f2 ≤ 9223372036854775807)
theorem rd61 : Opens Try.prog 61 k61 wf61 := opens_imp (fun _ h => h) (opens_iso (fun p => ⟨p.1, p.2.1, p.2.2⟩) (fun _ => rfl) (opens_struct Try.underlying61 (by kernel_rfl) (opensL_cons rd3 (opensL_cons rd3 (opensL_one rd3)))))
theorem rd55 : Opens Try.prog 55 (Kd.slice 61 k61) (fun x => (x.length ≤ 9223372036854775807 ∧ ∀ y ∈ x, wf61 y)) := opens_slice Try.underlying55 (by kernel_rfl) rd61
theorem rd4 : Opens Try.prog 4 Kd.bool (fun x => True) := opens_bool Try.underlying4
theorem rd52 : Opens Try.prog 52 (Kd.slice 4 Kd.bool) (fun x => (x.length ≤ 9223372036854775807 ∧ ∀ y ∈ x, True)) := opens_slice Try.underlying52 (by kernel_rfl) rd4
theorem rd5 : Opens Try.prog 5 (Kd.int .u8) (fun x => (0 ≤ x ∧ x ≤ 255)) := opens_imp (fun _ h => wf_u8 h) (opens_int Try.underlying5)
theorem rd76 : Opens Try.prog 76 (Kd.slice 5 (Kd.int .u8)) (fun x => (x.length ≤ 9223372036854775807 ∧ ∀ y ∈ x, (0 ≤ y ∧ y ≤ 255))) := opens_slice Try.underlying76 (by kernel_rfl) rd5
end Go.Proofs.Ytpbcamdjcnokfaa.P
