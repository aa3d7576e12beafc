/- Printed by a program of this workplace (a turned copy of the kit's optional print), out of the translation; not trusted: Lean checks it. -/
import Derived.Test.YtjgdcifbhmjinaaPx0
import Derived.Test.YtjgdcifbhmjinaaOpens
import Derived.KernelRfl
namespace Go.Proofs.Ytjgdcifbhmjinaa.P
open Go.RowKit Go.Proofs.YtjgdcifbhmjinaaW.PrintWords Go.Proofs.YtjgdcifbhmjinaaW.PrintLast Go.Proofs.YtjgdcifbhmjinaaW.PrintMore Go.Proofs.Ytjgdcifbhmjinaa.Opens
set_option linter.unusedVariables false
set_option linter.unusedSimpArgs false
theorem rd3 : Opens Try.prog 3 (Kd.int .i64) (fun x => (-9223372036854775808 ≤ x ∧ x ≤ 9223372036854775807)) := opens_imp (fun _ h => wf_i64 h) (opens_int Try.underlying3)
theorem rd38 : Opens Try.prog 38 (Kd.int .u64) (fun x => (0 ≤ x ∧ x ≤ 18446744073709551615)) := opens_imp (fun _ h => wf_u64 h) (opens_int Try.underlying38)
def wf40 (x : S40) : Prop := (-9223372036854775808 ≤ x.f0 ∧ x.f0 ≤ 9223372036854775807) ∧ (0 ≤ x.f1 ∧ x.f1 ≤ 18446744073709551615)
theorem rd40 : Opens Try.prog 40 k40 wf40 := opens_imp (fun _ h => h) (opens_iso (fun p => ⟨p.1, p.2⟩) (fun _ => rfl) (opens_struct Try.underlying40 (by kernel_rfl) (opensL_cons rd3 (opensL_one rd38))))
end Go.Proofs.Ytjgdcifbhmjinaa.P
