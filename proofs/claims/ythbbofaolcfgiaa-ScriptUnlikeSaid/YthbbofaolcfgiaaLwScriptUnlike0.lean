/- ScriptUnlike, out of the evaluator: some cases. -/
import Derived.Test.YthbbofaolcfgiaaEvKn
namespace Go.Proofs.Ythbbofaolcfgiaa.P
open Go Go.RowKit Go.Proofs.Ythbbofaolcfgiaa.Ev Go.Proofs.Ythbbofaolcfgiaa.EvX
theorem scriptUnlike_0_0 : truth Try.prog exK evF 1000000 100 6 [.ab .u8 0 255 9 0, .ab .u8 0 255 4 0] = true := by decide +kernel
theorem scriptUnlike_0_1 : truth Try.prog exK evF 1000000 100 6 [.ab .u8 0 255 9 0, .ab .u8 0 255 4 1] = true := by decide +kernel
theorem scriptUnlike_0_2 : truth Try.prog exK evF 1000000 100 6 [.ab .u8 0 255 9 0, .ab .u8 0 255 4 2] = true := by decide +kernel
theorem scriptUnlike_0_3 : truth Try.prog exK evF 1000000 100 6 [.ab .u8 0 255 9 0, .ab .u8 0 255 4 3] = true := by decide +kernel
theorem scriptUnlike_1_0 : truth Try.prog exK evF 1000000 100 6 [.ab .u8 0 255 9 1, .ab .u8 0 255 4 0] = true := by decide +kernel
theorem scriptUnlike_1_1 : truth Try.prog exK evF 1000000 100 6 [.ab .u8 0 255 9 1, .ab .u8 0 255 4 1] = true := by decide +kernel
theorem scriptUnlike_1_2 : truth Try.prog exK evF 1000000 100 6 [.ab .u8 0 255 9 1, .ab .u8 0 255 4 2] = true := by decide +kernel
theorem scriptUnlike_1_3 : truth Try.prog exK evF 1000000 100 6 [.ab .u8 0 255 9 1, .ab .u8 0 255 4 3] = true := by decide +kernel
theorem scriptUnlike_2_0 : truth Try.prog exK evF 1000000 100 6 [.ab .u8 0 255 9 2, .ab .u8 0 255 4 0] = true := by decide +kernel
end Go.Proofs.Ythbbofaolcfgiaa.P
