/- Printed by a program of this workplace (a turned copy of the kit's optional print), out of the translation; not trusted: Lean checks it. -/
import Derived.Test.YtbhfkhcedjgpdaaDoorPx0
import Derived.Test.YtbhfkhcedjgpdaaDoorOpens
import Derived.KernelRfl
namespace Go.Proofs.YtbhfkhcedjgpdaaDoor.P
open Go.RowKit Go.Proofs.YtbhfkhcedjgpdaaDoorW.PrintWords Go.Proofs.YtbhfkhcedjgpdaaDoorW.PrintLast Go.Proofs.YtbhfkhcedjgpdaaDoorW.PrintMore Go.Proofs.YtbhfkhcedjgpdaaDoor.Opens
set_option linter.unusedVariables false
set_option linter.unusedSimpArgs false
theorem rd3 : Opens Tryd.prog 3 (Kd.int .i64) (fun x => (-9223372036854775808 ≤ x ∧ x ≤ 9223372036854775807)) := opens_imp (fun _ h => wf_i64 h) (opens_int Tryd.underlying3)
theorem rd47 : Opens Tryd.prog 47 (Kd.slice 3 (Kd.int .i64)) (fun x => (x.length ≤ 9223372036854775807 ∧ ∀ y ∈ x, (-9223372036854775808 ≤ y ∧ y ≤ 9223372036854775807))) := opens_slice Tryd.underlying47 (by kernel_rfl) rd3
theorem rd22 : Opens Tryd.prog 22 (Kd.slice 47 (Kd.slice 3 (Kd.int .i64))) (fun x => (x.length ≤ 9223372036854775807 ∧ ∀ y ∈ x, (y.length ≤ 9223372036854775807 ∧ ∀ z ∈ y, (-9223372036854775808 ≤ z ∧ z ≤ 9223372036854775807)))) := opens_slice Tryd.underlying22 (by kernel_rfl) rd47
theorem rd56 : Opens Tryd.prog 56 (Kd.int .u64) (fun x => (0 ≤ x ∧ x ≤ 18446744073709551615)) := opens_imp (fun _ h => wf_u64 h) (opens_int Tryd.underlying56)
def wf58 (x : S58) : Prop := (-9223372036854775808 ≤ x.f0 ∧ x.f0 ≤ 9223372036854775807) ∧ (0 ≤ x.f1 ∧ x.f1 ≤ 18446744073709551615)
theorem rd58 : Opens Tryd.prog 58 k58 wf58 := opens_imp (fun _ h => h) (opens_iso (fun p => ⟨p.1, p.2⟩) (fun _ => rfl) (opens_struct Tryd.underlying58 (by kernel_rfl) (opensL_cons rd3 (opensL_one rd56))))
def wf60 (x : S60) : Prop := wf58 x.f0 ∧ (x.f1.length ≤ 9223372036854775807 ∧ ∀ y ∈ x.f1, (y.length ≤ 9223372036854775807 ∧ ∀ z ∈ y, (-9223372036854775808 ≤ z ∧ z ≤ 9223372036854775807))) ∧ (x.f2.length ≤ 9223372036854775807 ∧ ∀ y ∈ x.f2, (-9223372036854775808 ≤ y ∧ y ≤ 9223372036854775807)) ∧ (-9223372036854775808 ≤ x.f3 ∧ x.f3 ≤ 9223372036854775807) ∧ (-9223372036854775808 ≤ x.f4 ∧ x.f4 ≤ 9223372036854775807) ∧ (-9223372036854775808 ≤ x.f5 ∧ x.f5 ≤ 9223372036854775807) ∧ (-9223372036854775808 ≤ x.f6 ∧ x.f6 ≤ 9223372036854775807) ∧ (-9223372036854775808 ≤ x.f7 ∧ x.f7 ≤ 9223372036854775807) ∧ (-9223372036854775808 ≤ x.f8 ∧ x.f8 ≤ 9223372036854775807)
theorem rd60 : Opens Tryd.prog 60 k60 wf60 := opens_imp (fun _ h => h) (opens_iso (fun p => ⟨p.1, p.2.1, p.2.2.1, p.2.2.2.1, p.2.2.2.2.1, p.2.2.2.2.2.1, p.2.2.2.2.2.2.1, p.2.2.2.2.2.2.2.1, p.2.2.2.2.2.2.2.2⟩) (fun _ => rfl) (opens_struct Tryd.underlying60 (by kernel_rfl) (opensL_cons rd58 (opensL_cons rd22 (opensL_cons rd47 (opensL_cons rd3 (opensL_cons rd3 (opensL_cons rd3 (opensL_cons rd3 (opensL_cons rd3 (opensL_one rd3)))))))))))
theorem rd23 : Opens Tryd.prog 23 (Kd.slice 60 k60) (fun x => (x.length ≤ 9223372036854775807 ∧ ∀ y ∈ x, wf60 y)) := opens_slice Tryd.underlying23 (by kernel_rfl) rd60
def wf25 (x : S25) : Prop := (-9223372036854775808 ≤ x.f0 ∧ x.f0 ≤ 9223372036854775807) ∧ (-9223372036854775808 ≤ x.f1 ∧ x.f1 ≤ 9223372036854775807) ∧ (x.f2.length ≤ 9223372036854775807 ∧ ∀ y ∈ x.f2, (y.length ≤ 9223372036854775807 ∧ ∀ z ∈ y, (-9223372036854775808 ≤ z ∧ z ≤ 9223372036854775807))) ∧ (x.f3.length ≤ 9223372036854775807 ∧ ∀ y ∈ x.f3, wf60 y)
theorem rd25 : Opens Tryd.prog 25 k25 wf25 := opens_imp (fun _ h => h) (opens_iso (fun p => ⟨p.1, p.2.1, p.2.2.1, p.2.2.2⟩) (fun _ => rfl) (opens_struct Tryd.underlying25 (by kernel_rfl) (opensL_cons rd3 (opensL_cons rd3 (opensL_cons rd22 (opensL_one rd23))))))
def wf41 (x : S41) : Prop := (-9223372036854775808 ≤ x.f0 ∧ x.f0 ≤ 9223372036854775807) ∧ (-9223372036854775808 ≤ x.f1 ∧ x.f1 ≤ 9223372036854775807) ∧ (-9223372036854775808 ≤ x.f2 ∧ x.f2 ≤ 9223372036854775807)
theorem rd41 : Opens Tryd.prog 41 k41 wf41 := opens_imp (fun _ h => h) (opens_iso (fun p => ⟨p.1, p.2.1, p.2.2⟩) (fun _ => rfl) (opens_struct Tryd.underlying41 (by kernel_rfl) (opensL_cons rd3 (opensL_cons rd3 (opensL_one rd3)))))
theorem rd35 : Opens Tryd.prog 35 (Kd.slice 41 k41) (fun x => (x.length ≤ 9223372036854775807 ∧ ∀ y ∈ x, wf41 y)) := opens_slice Tryd.underlying35 (by kernel_rfl) rd41
end Go.Proofs.YtbhfkhcedjgpdaaDoor.P
