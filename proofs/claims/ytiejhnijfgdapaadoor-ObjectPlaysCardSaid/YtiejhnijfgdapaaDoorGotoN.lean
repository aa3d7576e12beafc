/- More steps of a printed walk behind lemmas whose proofs are defaults: rows whose elements share. -/
import Derived.Test.YtiejhnijfgdapaaDoorGoto
import Derived.Test.YtiejhnijfgdapaaDoorWMore
namespace Go.Proofs.YtiejhnijfgdapaaDoor.Goto
open Go Go.RowKit Go.Proofs.YtiejhnijfgdapaaDoorW.PrintWords
section
variable {α : Type} {d : Kd α} {e base g : Nat} {w w1 w2 : World} {ok ok' : Nat → Prop} {u v : Value} {xs : List α}
end
end Go.Proofs.YtiejhnijfgdapaaDoor.Goto
