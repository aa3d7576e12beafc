/- Printed by a program of this workplace (a turned copy of the kit's optional print), out of the translation; not trusted: Lean checks it. -/
import Derived.Test.YtnnkmkejcmdjpaaPx0
import Derived.Test.YtnnkmkejcmdjpaaOpens
import Derived.KernelRfl
namespace Go.Proofs.Ytnnkmkejcmdjpaa.P
open Go.RowKit Go.Proofs.YtnnkmkejcmdjpaaW.PrintWords Go.Proofs.YtnnkmkejcmdjpaaW.PrintLast Go.Proofs.YtnnkmkejcmdjpaaW.PrintMore Go.Proofs.Ytnnkmkejcmdjpaa.Opens
set_option linter.unusedVariables false
set_option linter.unusedSimpArgs false
theorem rd5 : Opens Try.prog 5 (Kd.int .u8) (fun x => (0 ≤ x ∧ x ≤ 255)) := opens_imp (fun _ h => wf_u8 h) (opens_int Try.underlying5)
theorem rd53 : Opens Try.prog 53 (Kd.slice 5 (Kd.int .u8)) (fun x => (x.length ≤ 9223372036854775807 ∧ ∀ y ∈ x, (0 ≤ y ∧ y ≤ 255))) := opens_slice Try.underlying53 (by kernel_rfl) rd5
end Go.Proofs.Ytnnkmkejcmdjpaa.P
