/- More steps of a printed walk behind lemmas whose proofs are defaults: rows whose elements share. -/
import Derived.Test.YtjgdcifbhmjinaaDoorGoto
import Derived.Test.YtjgdcifbhmjinaaDoorWMore
namespace Go.Proofs.YtjgdcifbhmjinaaDoor.Goto
open Go Go.RowKit Go.Proofs.YtjgdcifbhmjinaaDoorW.PrintWords
section
variable {α : Type} {d : Kd α} {e base g : Nat} {w w1 w2 : World} {ok ok' : Nat → Prop} {u v : Value} {xs : List α}
theorem nbV (k : Aside0 (Kd.V d e w base ok v xs)) (hb : Below w1.heap.size w1 w2) (h2 : Kd.V d e w base ok v xs → Kd.V d e w1 base ok v xs := by (intro h; (with_reducible repeat (first | exact h | apply Kd.V_alloc | apply Kd.V_drewN | apply Kd.V_drew)))) : Aside0 (Kd.V d e w2 base ok v xs) := ⟨Kd.V_below (h2 k.out) hb⟩
end
end Go.Proofs.YtjgdcifbhmjinaaDoor.Goto
