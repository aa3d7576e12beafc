/- Printed by a program of this workplace (a turned copy of the kit's optional print), out of the translation; not trusted: Lean checks it. -/
import Derived.Test.YtbhfkhcedjgpdaaPx0
import Derived.Test.YtbhfkhcedjgpdaaOpens
import Derived.KernelRfl
namespace Go.Proofs.Ytbhfkhcedjgpdaa.P
open Go.RowKit Go.Proofs.YtbhfkhcedjgpdaaW.PrintWords Go.Proofs.YtbhfkhcedjgpdaaW.PrintLast Go.Proofs.YtbhfkhcedjgpdaaW.PrintMore Go.Proofs.Ytbhfkhcedjgpdaa.Opens
set_option linter.unusedVariables false
set_option linter.unusedSimpArgs false
theorem rd3 : Opens Try.prog 3 (Kd.int .i64) (fun x => (-9223372036854775808 ≤ x ∧ x ≤ 9223372036854775807)) := opens_imp (fun _ h => wf_i64 h) (opens_int Try.underlying3)
theorem rd26 : Opens Try.prog 26 (Kd.slice 3 (Kd.int .i64)) (fun x => (x.length ≤ 9223372036854775807 ∧ ∀ y ∈ x, (-9223372036854775808 ≤ y ∧ y ≤ 9223372036854775807))) := opens_slice Try.underlying26 (by kernel_rfl) rd3
theorem rd22 : Opens Try.prog 22 (Kd.slice 26 (Kd.slice 3 (Kd.int .i64))) (fun x => (x.length ≤ 9223372036854775807 ∧ ∀ y ∈ x, (y.length ≤ 9223372036854775807 ∧ ∀ z ∈ y, (-9223372036854775808 ≤ z ∧ z ≤ 9223372036854775807)))) := opens_slice Try.underlying22 (by kernel_rfl) rd26
theorem rd40 : Opens Try.prog 40 (Kd.int .u64) (fun x => (0 ≤ x ∧ x ≤ 18446744073709551615)) := opens_imp (fun _ h => wf_u64 h) (opens_int Try.underlying40)
def wf42 (x : S42) : Prop := (-9223372036854775808 ≤ x.f0 ∧ x.f0 ≤ 9223372036854775807) ∧ (0 ≤ x.f1 ∧ x.f1 ≤ 18446744073709551615)
theorem rd42 : Opens Try.prog 42 k42 wf42 := opens_imp (fun _ h => h) (opens_iso (fun p => ⟨p.1, p.2⟩) (fun _ => rfl) (opens_struct Try.underlying42 (by kernel_rfl) (opensL_cons rd3 (opensL_one rd40))))
def wf44 (x : S44) : Prop := wf42 x.f0 ∧ (x.f1.length ≤ 9223372036854775807 ∧ ∀ y ∈ x.f1, (y.length ≤ 9223372036854775807 ∧ ∀ z ∈ y, (-9223372036854775808 ≤ z ∧ z ≤ 9223372036854775807))) ∧ (x.f2.length ≤ 9223372036854775807 ∧ ∀ y ∈ x.f2, (-9223372036854775808 ≤ y ∧ y ≤ 9223372036854775807)) ∧ (-9223372036854775808 ≤ x.f3 ∧ x.f3 ≤ 9223372036854775807) ∧ (-9223372036854775808 ≤ x.f4 ∧ x.f4 ≤ 9223372036854775807) ∧ (-9223372036854775808 ≤ x.f5 ∧ x.f5 ≤ 9223372036854775807) ∧ (-9223372036854775808 ≤ x.f6 ∧ x.f6 ≤ 9223372036854775807) ∧ (-9223372036854775808 ≤ x.f7 ∧ x.f7 ≤ 9223372036854775807) ∧ (-9223372036854775808 ≤ x.f8 ∧ x.f8 ≤ 9223372036854775807)
theorem rd44 : Opens Try.prog 44 k44 wf44 := opens_imp (fun _ h => h) (opens_iso (fun p => ⟨p.1, p.2.1, p.2.2.1, p.2.2.2.1, p.2.2.2.2.1, p.2.2.2.2.2.1, p.2.2.2.2.2.2.1, p.2.2.2.2.2.2.2.1, p.2.2.2.2.2.2.2.2⟩) (fun _ => rfl) (opens_struct Try.underlying44 (by kernel_rfl) (opensL_cons rd42 (opensL_cons rd22 (opensL_cons rd26 (opensL_cons rd3 (opensL_cons rd3 (opensL_cons rd3 (opensL_cons rd3 (opensL_cons rd3 (opensL_one rd3)))))))))))
theorem rd23 : Opens Try.prog 23 (Kd.slice 44 k44) (fun x => (x.length ≤ 9223372036854775807 ∧ ∀ y ∈ x, wf44 y)) := opens_slice Try.underlying23 (by kernel_rfl) rd44
def wf25 (x : S25) : Prop := (-9223372036854775808 ≤ x.f0 ∧ x.f0 ≤ 9223372036854775807) ∧ (-9223372036854775808 ≤ x.f1 ∧ x.f1 ≤ 9223372036854775807) ∧ (x.f2.length ≤ 9223372036854775807 ∧ ∀ y ∈ x.f2, (y.length ≤ 9223372036854775807 ∧ ∀ z ∈ y, (-9223372036854775808 ≤ z ∧ z ≤ 9223372036854775807))) ∧ (x.f3.length ≤ 9223372036854775807 ∧ ∀ y ∈ x.f3, wf44 y)
theorem rd25 : Opens Try.prog 25 k25 wf25 := opens_imp (fun _ h => h) (opens_iso (fun p => ⟨p.1, p.2.1, p.2.2.1, p.2.2.2⟩) (fun _ => rfl) (opens_struct Try.underlying25 (by kernel_rfl) (opensL_cons rd3 (opensL_cons rd3 (opensL_cons rd22 (opensL_one rd23))))))
def wf63 (x : S63) : Prop := (-9223372036854775808 ≤ x.f0 ∧ x.f0 ≤ 9223372036854775807) ∧ (-9223372036854775808 ≤ x.f1 ∧ x.f1 ≤ 9223372036854775807) ∧ (-9223372036854775808 ≤ x.f2 ∧ x.f2 ≤ 9223372036854775807)
theorem rd63 : Opens Try.prog 63 k63 wf63 := opens_imp (fun _ h => h) (opens_iso (fun p => ⟨p.1, p.2.1, p.2.2⟩) (fun _ => rfl) (opens_struct Try.underlying63 (by kernel_rfl) (opensL_cons rd3 (opensL_cons rd3 (opensL_one rd3)))))
theorem rd57 : Opens Try.prog 57 (Kd.slice 63 k63) (fun x => (x.length ≤ 9223372036854775807 ∧ ∀ y ∈ x, wf63 y)) := opens_slice Try.underlying57 (by kernel_rfl) rd63
end Go.Proofs.Ytbhfkhcedjgpdaa.P
