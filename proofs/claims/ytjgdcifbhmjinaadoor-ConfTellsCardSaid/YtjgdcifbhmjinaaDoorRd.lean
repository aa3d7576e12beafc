/- Printed by a program of this workplace (a turned copy of the kit's optional print), out of the translation; not trusted: Lean checks it. -/
import Derived.Test.YtjgdcifbhmjinaaDoorPx0
import Derived.Test.YtjgdcifbhmjinaaDoorOpens
import Derived.KernelRfl
namespace Go.Proofs.YtjgdcifbhmjinaaDoor.P
open Go.RowKit Go.Proofs.YtjgdcifbhmjinaaDoorW.PrintWords Go.Proofs.YtjgdcifbhmjinaaDoorW.PrintLast Go.Proofs.YtjgdcifbhmjinaaDoorW.PrintMore Go.Proofs.YtjgdcifbhmjinaaDoor.Opens
set_option linter.unusedVariables false
set_option linter.unusedSimpArgs false
theorem rd3 : Opens Tryd.prog 3 (Kd.int .i64) (fun x => (-9223372036854775808 ≤ x ∧ x ≤ 9223372036854775807)) := opens_imp (fun _ h => wf_i64 h) (opens_int Tryd.underlying3)
theorem rd35 : Opens Tryd.prog 35 (Kd.slice 3 (Kd.int .i64)) (fun x => (x.length ≤ 9223372036854775807 ∧ ∀ y ∈ x, (-9223372036854775808 ≤ y ∧ y ≤ 9223372036854775807))) := opens_slice Tryd.underlying35 (by kernel_rfl) rd3
theorem rd22 : Opens Tryd.prog 22 (Kd.slice 35 (Kd.slice 3 (Kd.int .i64))) (fun x => (x.length ≤ 9223372036854775807 ∧ ∀ y ∈ x, (y.length ≤ 9223372036854775807 ∧ ∀ z ∈ y, (-9223372036854775808 ≤ z ∧ z ≤ 9223372036854775807)))) := opens_slice Tryd.underlying22 (by kernel_rfl) rd35
theorem rd36 : Opens Tryd.prog 36 (Kd.int .u64) (fun x => (0 ≤ x ∧ x ≤ 18446744073709551615)) := opens_imp (fun _ h => wf_u64 h) (opens_int Tryd.underlying36)
def wf38 (x : S38) : Prop := (-9223372036854775808 ≤ x.f0 ∧ x.f0 ≤ 9223372036854775807) ∧ (0 ≤ x.f1 ∧ x.f1 ≤ 18446744073709551615)
theorem rd38 : Opens Tryd.prog 38 k38 wf38 := opens_imp (fun _ h => h) (opens_iso (fun p => ⟨p.1, p.2⟩) (fun _ => rfl) (opens_struct Tryd.underlying38 (by kernel_rfl) (opensL_cons rd3 (opensL_one rd36))))
def wf40 (x : S40) : Prop := wf38 x.f0 ∧ (x.f1.length ≤ 9223372036854775807 ∧ ∀ y ∈ x.f1, (y.length ≤ 9223372036854775807 ∧ ∀ z ∈ y, (-9223372036854775808 ≤ z ∧ z ≤ 9223372036854775807))) ∧ (x.f2.length ≤ 9223372036854775807 ∧ ∀ y ∈ x.f2, (-9223372036854775808 ≤ y ∧ y ≤ 9223372036854775807)) ∧ (-9223372036854775808 ≤ x.f3 ∧ x.f3 ≤ 9223372036854775807) ∧ (-9223372036854775808 ≤ x.f4 ∧ x.f4 ≤ 9223372036854775807) ∧ (-9223372036854775808 ≤ x.f5 ∧ x.f5 ≤ 9223372036854775807) ∧ (-9223372036854775808 ≤ x.f6 ∧ x.f6 ≤ 9223372036854775807) ∧ (-9223372036854775808 ≤ x.f7 ∧ x.f7 ≤ 9223372036854775807) ∧ (-9223372036854775808 ≤ x.f8 ∧ x.f8 ≤ 9223372036854775807)
theorem rd40 : Opens Tryd.prog 40 k40 wf40 := opens_imp (fun _ h => h) (opens_iso (fun p => ⟨p.1, p.2.1, p.2.2.1, p.2.2.2.1, p.2.2.2.2.1, p.2.2.2.2.2.1, p.2.2.2.2.2.2.1, p.2.2.2.2.2.2.2.1, p.2.2.2.2.2.2.2.2⟩) (fun _ => rfl) (opens_struct Tryd.underlying40 (by kernel_rfl) (opensL_cons rd38 (opensL_cons rd22 (opensL_cons rd35 (opensL_cons rd3 (opensL_cons rd3 (opensL_cons rd3 (opensL_cons rd3 (opensL_cons rd3 (opensL_one rd3)))))))))))
theorem rd23 : Opens Tryd.prog 23 (Kd.slice 40 k40) (fun x => (x.length ≤ 9223372036854775807 ∧ ∀ y ∈ x, wf40 y)) := opens_slice Tryd.underlying23 (by kernel_rfl) rd40
def wf25 (x : S25) : Prop := (-9223372036854775808 ≤ x.f0 ∧ x.f0 ≤ 9223372036854775807) ∧ (-9223372036854775808 ≤ x.f1 ∧ x.f1 ≤ 9223372036854775807) ∧ (x.f2.length ≤ 9223372036854775807 ∧ ∀ y ∈ x.f2, (y.length ≤ 9223372036854775807 ∧ ∀ z ∈ y, (-9223372036854775808 ≤ z ∧ z ≤ 9223372036854775807))) ∧ (x.f3.length ≤ 9223372036854775807 ∧ ∀ y ∈ x.f3, wf40 y)
theorem rd25 : Opens Tryd.prog 25 k25 wf25 := opens_imp (fun _ h => h) (opens_iso (fun p => ⟨p.1, p.2.1, p.2.2.1, p.2.2.2⟩) (fun _ => rfl) (opens_struct Tryd.underlying25 (by kernel_rfl) (opensL_cons rd3 (opensL_cons rd3 (opensL_cons rd22 (opensL_one rd23))))))
end Go.Proofs.YtjgdcifbhmjinaaDoor.P
