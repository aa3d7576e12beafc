/- Printed by a program of this workplace (a turned copy of the kit's optional print), out of the translation; not trusted: Lean checks it. -/
import Derived.Test.YtpbcamdjcnokfaaPx0
import Derived.Test.YtpbcamdjcnokfaaOpens
import Derived.KernelRfl
namespace Go.Proofs.Ytpbcamdjcnokfaa.P
open Go.RowKit Go.Proofs.YtpbcamdjcnokfaaW.PrintWords Go.Proofs.YtpbcamdjcnokfaaW.PrintLast Go.Proofs.YtpbcamdjcnokfaaW.PrintMore Go.Proofs.Ytpbcamdjcnokfaa.Opens
set_option linter.unusedVariables false
set_option linter.unusedSimpArgs false
theorem k24_rd {w : World} {x : S24} {cs : List Value} (h : k24.K w x cs) : cs = [.int .i64 x.f0, .int .u64 x.f1] := by
  obtain ⟨_, _, rfl, rfl, rfl⟩ := h
  exact rfl
theorem k24_rdmk (w : World) (x : S24) : k24.K w x [.int .i64 x.f0, .int .u64 x.f1] := by
  exact ⟨[_], _, rfl, rfl, rfl⟩
theorem rd3 : Opens Try.prog 3 (Kd.int .i64) (fun x => (-9223372036854775808 ≤ x ∧ x ≤ 9223372036854775807)) := opens_imp (fun _ h => wf_i64 h) (opens_int Try.underlying3)
theorem rd22 : Opens Try.prog 22 (Kd.int .u64) (fun x => (0 ≤ x ∧ x ≤ 18446744073709551615)) := opens_imp (fun _ h => wf_u64 h) (opens_int Try.underlying22)
def wf24 (x : S24) : Prop := (-9223372036854775808 ≤ x.f0 ∧ x.f0 ≤ 9223372036854775807) ∧ (0 ≤ x.f1 ∧ x.f1 ≤ 18446744073709551615)
theorem rd24 : Opens Try.prog 24 k24 wf24 := by
  intro H enc w base spare held fuel cs x h
  obtain ⟨a, ha, wa⟩ := opens_struct Try.underlying24 (by kernel_rfl) (opensL_cons rd3 (opensL_one rd22)) H enc w base spare held fuel cs x h
  obtain ⟨a0, a1⟩ := a
  obtain ⟨c0, r0, e0, h0, h1⟩ := ha
  obtain ⟨w0, w1⟩ := wa
  have q0 : c0 = [.int .i64 a0] := h0
  have q1 : r0 = [.int .u64 a1] := h1
  subst e0
  subst q0
  subst q1
  refine ⟨⟨a0, a1⟩, ?_, by simp_all [wf24]⟩
  exact k24_rdmk w ⟨a0, a1⟩ 
theorem rd25 : Opens Try.prog 25 (Kd.slice 24 k24) (fun x => (x.length ≤ 9223372036854775807 ∧ ∀ y ∈ x, wf24 y)) := opens_slice Try.underlying25 (by kernel_rfl) rd24
end Go.Proofs.Ytpbcamdjcnokfaa.P
