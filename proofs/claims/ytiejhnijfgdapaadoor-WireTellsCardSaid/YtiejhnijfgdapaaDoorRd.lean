/- Printed by a program of this workplace (a turned copy of the kit's optional print), out of the translation; not trusted: Lean checks it. -/
import Derived.Test.YtiejhnijfgdapaaDoorPx0
import Derived.Test.YtiejhnijfgdapaaDoorOpens
import Derived.KernelRfl
namespace Go.Proofs.YtiejhnijfgdapaaDoor.P
open Go.RowKit Go.Proofs.YtiejhnijfgdapaaDoorW.PrintWords Go.Proofs.YtiejhnijfgdapaaDoorW.PrintLast Go.Proofs.YtiejhnijfgdapaaDoorW.PrintMore Go.Proofs.YtiejhnijfgdapaaDoor.Opens
set_option linter.unusedVariables false
set_option linter.unusedSimpArgs false
theorem rd3 : Opens Tryd.prog 3 (Kd.int .i64) (fun x => (-9223372036854775808 ≤ x ∧ x ≤ 9223372036854775807)) := opens_imp (fun _ h => wf_i64 h) (opens_int Tryd.underlying3)
def wf38 (x : S38) : Prop := (-9223372036854775808 ≤ x.f0 ∧ x.f0 ≤ 9223372036854775807) ∧ (-9223372036854775808 ≤ x.f1 ∧ x.f1 ≤ 9223372036854775807)
theorem rd38 : Opens Tryd.prog 38 k38 wf38 := opens_imp (fun _ h => h) (opens_iso (fun p => ⟨p.1, p.2⟩) (fun _ => rfl) (opens_struct Tryd.underlying38 (by kernel_rfl) (opensL_cons rd3 (opensL_one rd3))))
theorem rd23 : Opens Tryd.prog 23 (Kd.slice 38 k38) (fun x => (x.length ≤ 9223372036854775807 ∧ ∀ y ∈ x, wf38 y)) := opens_slice Tryd.underlying23 (by kernel_rfl) rd38
end Go.Proofs.YtiejhnijfgdapaaDoor.P
