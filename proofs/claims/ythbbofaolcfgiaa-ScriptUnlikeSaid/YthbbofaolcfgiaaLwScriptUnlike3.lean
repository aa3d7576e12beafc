/- ScriptUnlike, out of the evaluator: some cases. -/
import Derived.Test.YthbbofaolcfgiaaEvKn
namespace Go.Proofs.Ythbbofaolcfgiaa.P
open Go Go.RowKit Go.Proofs.Ythbbofaolcfgiaa.Ev Go.Proofs.Ythbbofaolcfgiaa.EvX
theorem scriptUnlike_6_3 : truth Try.prog exK evF 1000000 100 6 [.ab .u8 0 255 9 6, .ab .u8 0 255 4 3] = true := by decide +kernel
theorem scriptUnlike_7_0 : truth Try.prog exK evF 1000000 100 6 [.ab .u8 0 255 9 7, .ab .u8 0 255 4 0] = true := by decide +kernel
theorem scriptUnlike_7_1 : truth Try.prog exK evF 1000000 100 6 [.ab .u8 0 255 9 7, .ab .u8 0 255 4 1] = true := by decide +kernel
theorem scriptUnlike_7_2 : truth Try.prog exK evF 1000000 100 6 [.ab .u8 0 255 9 7, .ab .u8 0 255 4 2] = true := by decide +kernel
theorem scriptUnlike_7_3 : truth Try.prog exK evF 1000000 100 6 [.ab .u8 0 255 9 7, .ab .u8 0 255 4 3] = true := by decide +kernel
theorem scriptUnlike_8_0 : truth Try.prog exK evF 1000000 100 6 [.ab .u8 0 255 9 8, .ab .u8 0 255 4 0] = true := by decide +kernel
theorem scriptUnlike_8_1 : truth Try.prog exK evF 1000000 100 6 [.ab .u8 0 255 9 8, .ab .u8 0 255 4 1] = true := by decide +kernel
theorem scriptUnlike_8_2 : truth Try.prog exK evF 1000000 100 6 [.ab .u8 0 255 9 8, .ab .u8 0 255 4 2] = true := by decide +kernel
theorem scriptUnlike_8_3 : truth Try.prog exK evF 1000000 100 6 [.ab .u8 0 255 9 8, .ab .u8 0 255 4 3] = true := by decide +kernel
end Go.Proofs.Ythbbofaolcfgiaa.P
