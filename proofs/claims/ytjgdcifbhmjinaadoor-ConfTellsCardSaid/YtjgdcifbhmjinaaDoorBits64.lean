/- Sets of 64 as bit vectors: what the program's | & &^ on them tell. -/
import Derived.Laws.BitsLemmas
import Derived.WalkKit
namespace Go.Proofs.YtjgdcifbhmjinaaDoor.Bits64
open Go
end Go.Proofs.YtjgdcifbhmjinaaDoor.Bits64
