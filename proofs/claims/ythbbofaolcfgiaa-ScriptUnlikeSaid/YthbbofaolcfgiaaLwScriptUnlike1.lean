/- ScriptUnlike, out of the evaluator: some cases. -/
import Derived.Test.YthbbofaolcfgiaaEvKn
namespace Go.Proofs.Ythbbofaolcfgiaa.P
open Go Go.RowKit Go.Proofs.Ythbbofaolcfgiaa.Ev Go.Proofs.Ythbbofaolcfgiaa.EvX
theorem scriptUnlike_2_1 : truth Try.prog exK evF 1000000 100 6 [.ab .u8 0 255 9 2, .ab .u8 0 255 4 1] = true := by decide +kernel
theorem scriptUnlike_2_2 : truth Try.prog exK evF 1000000 100 6 [.ab .u8 0 255 9 2, .ab .u8 0 255 4 2] = true := by decide +kernel
theorem scriptUnlike_2_3 : truth Try.prog exK evF 1000000 100 6 [.ab .u8 0 255 9 2, .ab .u8 0 255 4 3] = true := by decide +kernel
theorem scriptUnlike_3_0 : truth Try.prog exK evF 1000000 100 6 [.ab .u8 0 255 9 3, .ab .u8 0 255 4 0] = true := by decide +kernel
theorem scriptUnlike_3_1 : truth Try.prog exK evF 1000000 100 6 [.ab .u8 0 255 9 3, .ab .u8 0 255 4 1] = true := by decide +kernel
theorem scriptUnlike_3_2 : truth Try.prog exK evF 1000000 100 6 [.ab .u8 0 255 9 3, .ab .u8 0 255 4 2] = true := by decide +kernel
theorem scriptUnlike_3_3 : truth Try.prog exK evF 1000000 100 6 [.ab .u8 0 255 9 3, .ab .u8 0 255 4 3] = true := by decide +kernel
theorem scriptUnlike_4_0 : truth Try.prog exK evF 1000000 100 6 [.ab .u8 0 255 9 4, .ab .u8 0 255 4 0] = true := by decide +kernel
theorem scriptUnlike_4_1 : truth Try.prog exK evF 1000000 100 6 [.ab .u8 0 255 9 4, .ab .u8 0 255 4 1] = true := by decide +kernel
end Go.Proofs.Ythbbofaolcfgiaa.P
