/- Printed by a program of this workplace (a turned copy of the kit's optional print), out of the translation; not trusted: Lean checks it. -/
import Derived.Test.YtlmllmbbdlkknaaDoorPx0
import Derived.Test.YtlmllmbbdlkknaaDoorOpens
import Derived.KernelRfl
namespace Go.Proofs.YtlmllmbbdlkknaaDoor.P
open Go.RowKit Go.Proofs.YtlmllmbbdlkknaaDoorW.PrintWords Go.Proofs.YtlmllmbbdlkknaaDoorW.PrintLast Go.Proofs.YtlmllmbbdlkknaaDoorW.PrintMore Go.Proofs.YtlmllmbbdlkknaaDoor.Opens
set_option linter.unusedVariables false
set_option linter.unusedSimpArgs false
theorem rd3 : Opens Tryd.prog 3 (Kd.int .i64) (fun x => (-9223372036854775808 ≤ x ∧ x ≤ 9223372036854775807)) := opens_imp (fun _ h => wf_i64 h) (opens_int Tryd.underlying3)
theorem rd39 : Opens Tryd.prog 39 (Kd.slice 3 (Kd.int .i64)) (fun x => (x.length ≤ 9223372036854775807 ∧ ∀ y ∈ x, (-9223372036854775808 ≤ y ∧ y ≤ 9223372036854775807))) := opens_slice Tryd.underlying39 (by kernel_rfl) rd3
theorem rd22 : Opens Tryd.prog 22 (Kd.slice 39 (Kd.slice 3 (Kd.int .i64))) (fun x => (x.length ≤ 9223372036854775807 ∧ ∀ y ∈ x, (y.length ≤ 9223372036854775807 ∧ ∀ z ∈ y, (-9223372036854775808 ≤ z ∧ z ≤ 9223372036854775807)))) := opens_slice Tryd.underlying22 (by kernel_rfl) rd39
theorem rd28 : Opens Tryd.prog 28 (Kd.int .u64) (fun x => (0 ≤ x ∧ x ≤ 18446744073709551615)) := opens_imp (fun _ h => wf_u64 h) (opens_int Tryd.underlying28)
def wf30 (x : S30) : Prop := (-9223372036854775808 ≤ x.f0 ∧ x.f0 ≤ 9223372036854775807) ∧ (0 ≤ x.f1 ∧ x.f1 ≤ 18446744073709551615)
theorem rd30 : Opens Tryd.prog 30 k30 wf30 := opens_imp (fun _ h => h) (opens_iso (fun p => ⟨p.1, p.2⟩) (fun _ => rfl) (opens_struct Tryd.underlying30 (by kernel_rfl) (opensL_cons rd3 (opensL_one rd28))))
def wf46 (x : S46) : Prop := wf30 x.f0 ∧ (x.f1.length ≤ 9223372036854775807 ∧ ∀ y ∈ x.f1, (y.length ≤ 9223372036854775807 ∧ ∀ z ∈ y, (-9223372036854775808 ≤ z ∧ z ≤ 9223372036854775807))) ∧ (x.f2.length ≤ 9223372036854775807 ∧ ∀ y ∈ x.f2, (-9223372036854775808 ≤ y ∧ y ≤ 9223372036854775807)) ∧ (-9223372036854775808 ≤ x.f3 ∧ x.f3 ≤ 9223372036854775807) ∧ (-9223372036854775808 ≤ x.f4 ∧ x.f4 ≤ 9223372036854775807) ∧ (-9223372036854775808 ≤ x.f5 ∧ x.f5 ≤ 9223372036854775807) ∧ (-9223372036854775808 ≤ x.f6 ∧ x.f6 ≤ 9223372036854775807) ∧ (-9223372036854775808 ≤ x.f7 ∧ x.f7 ≤ 9223372036854775807) ∧ (-9223372036854775808 ≤ x.f8 ∧ x.f8 ≤ 9223372036854775807)
theorem rd46 : Opens Tryd.prog 46 k46 wf46 := opens_imp (fun _ h => h) (opens_iso (fun p => ⟨p.1, p.2.1, p.2.2.1, p.2.2.2.1, p.2.2.2.2.1, p.2.2.2.2.2.1, p.2.2.2.2.2.2.1, p.2.2.2.2.2.2.2.1, p.2.2.2.2.2.2.2.2⟩) (fun _ => rfl) (opens_struct Tryd.underlying46 (by kernel_rfl) (opensL_cons rd30 (opensL_cons rd22 (opensL_cons rd39 (opensL_cons rd3 (opensL_cons rd3 (opensL_cons rd3 (opensL_cons rd3 (opensL_cons rd3 (opensL_one rd3)))))))))))
theorem rd23 : Opens Tryd.prog 23 (Kd.slice 46 k46) (fun x => (x.length ≤ 9223372036854775807 ∧ ∀ y ∈ x, wf46 y)) := opens_slice Tryd.underlying23 (by kernel_rfl) rd46
def wf25 (x : S25) : Prop := (-9223372036854775808 ≤ x.f0 ∧ x.f0 ≤ 9223372036854775807) ∧ (-9223372036854775808 ≤ x.f1 ∧ x.f1 ≤ 9223372036854775807) ∧ (x.f2.length ≤ 9223372036854775807 ∧ ∀ y ∈ x.f2, (y.length ≤ 9223372036854775807 ∧ ∀ z ∈ y, (-9223372036854775808 ≤ z ∧ z ≤ 9223372036854775807))) ∧ (x.f3.length ≤ 9223372036854775807 ∧ ∀ y ∈ x.f3, wf46 y)
theorem rd25 : Opens Tryd.prog 25 k25 wf25 := opens_imp (fun _ h => h) (opens_iso (fun p => ⟨p.1, p.2.1, p.2.2.1, p.2.2.2⟩) (fun _ => rfl) (opens_struct Tryd.underlying25 (by kernel_rfl) (opensL_cons rd3 (opensL_cons rd3 (opensL_cons rd22 (opensL_one rd23))))))
def wf35 (x : S35) : Prop := (-9223372036854775808 ≤ x.f0 ∧ x.f0 ≤ 9223372036854775807) ∧ (-9223372036854775808 ≤ x.f1 ∧ x.f1 ≤ 9223372036854775807) ∧ (-9223372036854775808 ≤ x.f2 ∧ x.f2 ≤ 9223372036854775807) ∧ (-9223372036854775808 ≤ x.f3 ∧ x.f3 ≤ 9223372036854775807) ∧ (-9223372036854775808 ≤ x.f4 ∧ x.f4 ≤ 9223372036854775807) ∧ (-9223372036854775808 ≤ x.f5 ∧ x.f5 ≤ 9223372036854775807)
theorem rd35 : Opens Tryd.prog 35 k35 wf35 := opens_imp (fun _ h => h) (opens_iso (fun p => ⟨p.1, p.2.1, p.2.2.1, p.2.2.2.1, p.2.2.2.2.1, p.2.2.2.2.2⟩) (fun _ => rfl) (opens_struct Tryd.underlying35 (by kernel_rfl) (opensL_cons rd3 (opensL_cons rd3 (opensL_cons rd3 (opensL_cons rd3 (opensL_cons rd3 (opensL_one rd3))))))))
theorem rd26 : Opens Tryd.prog 26 (Kd.slice 35 k35) (fun x => (x.length ≤ 9223372036854775807 ∧ ∀ y ∈ x, wf35 y)) := opens_slice Tryd.underlying26 (by kernel_rfl) rd35
theorem rd27 : Opens Tryd.prog 27 (Kd.slice 26 (Kd.slice 35 k35)) (fun x => (x.length ≤ 9223372036854775807 ∧ ∀ y ∈ x, (y.length ≤ 9223372036854775807 ∧ ∀ z ∈ y, wf35 z))) := opens_slice Tryd.underlying27 (by kernel_rfl) rd26
end Go.Proofs.YtlmllmbbdlkknaaDoor.P
