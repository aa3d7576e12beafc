/-
  No cell of these rows narrows 'for every input' (looked for: loops, veiled, ifaces, maps, wideKeys, modest, calm, conditions, laid).
  DERIVED. THE GIVEN ROWS OF THIS SEAT. 12 by the template 'for every input the law returns true; each argument reads behind the call as it read before'; 0 by the template 'total and deterministic' (their statements: YtpbcamdjcnokfaaTotals.lean).
  GIVEN WITH THE SEED: the statements are not yours to turn. If you find one false, say at which input.
  Laid BY PROGRAM, IN A SANDBOX (cutbox-rows.mjs): the forced cells as the released guide's own fill.sh prints them over the translation af5bb5c62c6fa1b4… (all of the seat's roots in one cut). By AI agents, Wed Nov 11 2026. No macro, syntax, notation, axiom, sorry.
-/
import Derived.Test.YtpbcamdjcnokfaaChecked
import GoSem.Claim
import GoSem.ClaimJoined
import GoSem.ClaimMapViews
import Derived.JoinedTies
import Derived.KernelRfl
namespace Go.Proofs.Ytpbcamdjcnokfaa
/- THE CELL 'sum', in the pinned program and in every row, IS THE sha256 OF THE DUMP (.gsa) THAT YtpbcamdjcnokfaaProg.lean LOADS. Nothing in Lean hashes anything: it is a label: what it is worth is what the hold of that sum in a sandbox is worth. -/
noncomputable def Try.pinned : Pinned := { name := "ytpbcamdjcnokfaa", sum := "af5bb5c62c6fa1b46b85d22c51c47ae90dbcf0951e5d9c85e0ff56e41e6a4650", checked := Try.checked }
namespace Rows
def none {H : Type} : Left H := { results := [], args := [] }

/-- 'tontinelaw1.LabelTells': WHATEVER THE INPUT: true; the input reads as it did. -/
def labelTellsSpec : ChangeSpec := { name := "labelTells", fn := fun _ => fun
  | [d1, d2, d3] => { results := [.lit (.bool true)], args := [d1, d2, d3] }
  | _ => none }
def labelTellsRow : OpenClaim := { program := "ytpbcamdjcnokfaa", sum := "af5bb5c62c6fa1b46b85d22c51c47ae90dbcf0951e5d9c85e0ff56e41e6a4650", func := "tontine/tontinelaw1.LabelTells", spec := "labelTells", apart := false }
def LabelTellsSaid : Prop := labelTellsRow.holds Try.pinned (OpenSpec.ofChange labelTellsSpec)

/-- ITS FALSE NEIGHBOUR: 'it returns false'. Refute it at one input. -/
def labelTellsWrong : ChangeSpec := { name := "labelTells", fn := fun _ => fun
  | [d1, d2, d3] => { results := [.lit (.bool false)], args := [d1, d2, d3] }
  | _ => none }
def LabelTellsWrongFalsely : Prop := labelTellsRow.holds Try.pinned (OpenSpec.ofChange labelTellsWrong)

/-- 'tontinelaw1.LabelOrder': WHATEVER THE INPUT: true; the input reads as it did. -/
def labelOrderSpec : ChangeSpec := { name := "labelOrder", fn := fun _ => fun
  | [d1, d2, d3] => { results := [.lit (.bool true)], args := [d1, d2, d3] }
  | _ => none }
def labelOrderRow : OpenClaim := { program := "ytpbcamdjcnokfaa", sum := "af5bb5c62c6fa1b46b85d22c51c47ae90dbcf0951e5d9c85e0ff56e41e6a4650", func := "tontine/tontinelaw1.LabelOrder", spec := "labelOrder", apart := false }
def LabelOrderSaid : Prop := labelOrderRow.holds Try.pinned (OpenSpec.ofChange labelOrderSpec)

/-- ITS FALSE NEIGHBOUR: 'it returns false'. Refute it at one input. -/
def labelOrderWrong : ChangeSpec := { name := "labelOrder", fn := fun _ => fun
  | [d1, d2, d3] => { results := [.lit (.bool false)], args := [d1, d2, d3] }
  | _ => none }
def LabelOrderWrongFalsely : Prop := labelOrderRow.holds Try.pinned (OpenSpec.ofChange labelOrderWrong)

/-- 'tontinelaw1.LabelBounds': WHATEVER THE INPUT: true; the input reads as it did. -/
def labelBoundsSpec : ChangeSpec := { name := "labelBounds", fn := fun _ => fun
  | [d1, d2, d3] => { results := [.lit (.bool true)], args := [d1, d2, d3] }
  | _ => none }
def labelBoundsRow : OpenClaim := { program := "ytpbcamdjcnokfaa", sum := "af5bb5c62c6fa1b46b85d22c51c47ae90dbcf0951e5d9c85e0ff56e41e6a4650", func := "tontine/tontinelaw1.LabelBounds", spec := "labelBounds", apart := false }
def LabelBoundsSaid : Prop := labelBoundsRow.holds Try.pinned (OpenSpec.ofChange labelBoundsSpec)

/-- ITS FALSE NEIGHBOUR: 'it returns false'. Refute it at one input. -/
def labelBoundsWrong : ChangeSpec := { name := "labelBounds", fn := fun _ => fun
  | [d1, d2, d3] => { results := [.lit (.bool false)], args := [d1, d2, d3] }
  | _ => none }
def LabelBoundsWrongFalsely : Prop := labelBoundsRow.holds Try.pinned (OpenSpec.ofChange labelBoundsWrong)

/-- 'tontinelaw1.LabelChains': WHATEVER THE INPUT: true; the input reads as it did. -/
def labelChainsSpec : ChangeSpec := { name := "labelChains", fn := fun _ => fun
  | [d1, d2] => { results := [.lit (.bool true)], args := [d1, d2] }
  | _ => none }
def labelChainsRow : OpenClaim := { program := "ytpbcamdjcnokfaa", sum := "af5bb5c62c6fa1b46b85d22c51c47ae90dbcf0951e5d9c85e0ff56e41e6a4650", func := "tontine/tontinelaw1.LabelChains", spec := "labelChains", apart := false }
def LabelChainsSaid : Prop := labelChainsRow.holds Try.pinned (OpenSpec.ofChange labelChainsSpec)

/-- ITS FALSE NEIGHBOUR: 'it returns false'. Refute it at one input. -/
def labelChainsWrong : ChangeSpec := { name := "labelChains", fn := fun _ => fun
  | [d1, d2] => { results := [.lit (.bool false)], args := [d1, d2] }
  | _ => none }
def LabelChainsWrongFalsely : Prop := labelChainsRow.holds Try.pinned (OpenSpec.ofChange labelChainsWrong)

/-- 'tontinelaw1.LabelLaws': WHATEVER THE INPUT: true; the input reads as it did. -/
def labelLawsSpec : ChangeSpec := { name := "labelLaws", fn := fun _ => fun
  | [d1, d2, d3] => { results := [.lit (.bool true)], args := [d1, d2, d3] }
  | _ => none }
def labelLawsRow : OpenClaim := { program := "ytpbcamdjcnokfaa", sum := "af5bb5c62c6fa1b46b85d22c51c47ae90dbcf0951e5d9c85e0ff56e41e6a4650", func := "tontine/tontinelaw1.LabelLaws", spec := "labelLaws", apart := false }
def LabelLawsSaid : Prop := labelLawsRow.holds Try.pinned (OpenSpec.ofChange labelLawsSpec)

/-- ITS FALSE NEIGHBOUR: 'it returns false'. Refute it at one input. -/
def labelLawsWrong : ChangeSpec := { name := "labelLaws", fn := fun _ => fun
  | [d1, d2, d3] => { results := [.lit (.bool false)], args := [d1, d2, d3] }
  | _ => none }
def LabelLawsWrongFalsely : Prop := labelLawsRow.holds Try.pinned (OpenSpec.ofChange labelLawsWrong)

/-- 'tontinelaw18.RingPlays': WHATEVER THE INPUT: true; the input reads as it did. -/
def ringPlaysSpec : ChangeSpec := { name := "ringPlays", fn := fun _ => fun
  | [d1, d2, d3] => { results := [.lit (.bool true)], args := [d1, d2, d3] }
  | _ => none }
def ringPlaysRow : OpenClaim := { program := "ytpbcamdjcnokfaa", sum := "af5bb5c62c6fa1b46b85d22c51c47ae90dbcf0951e5d9c85e0ff56e41e6a4650", func := "tontine/tontinelaw18.RingPlays", spec := "ringPlays", apart := false }
def RingPlaysSaid : Prop := ringPlaysRow.holds Try.pinned (OpenSpec.ofChange ringPlaysSpec)

/-- ITS FALSE NEIGHBOUR: 'it returns false'. Refute it at one input. -/
def ringPlaysWrong : ChangeSpec := { name := "ringPlays", fn := fun _ => fun
  | [d1, d2, d3] => { results := [.lit (.bool false)], args := [d1, d2, d3] }
  | _ => none }
def RingPlaysWrongFalsely : Prop := ringPlaysRow.holds Try.pinned (OpenSpec.ofChange ringPlaysWrong)

/-- 'tontinelaw18.RingReads': WHATEVER THE INPUT: true; the input reads as it did. -/
def ringReadsSpec : ChangeSpec := { name := "ringReads", fn := fun _ => fun
  | [d1, d2] => { results := [.lit (.bool true)], args := [d1, d2] }
  | _ => none }
def ringReadsRow : OpenClaim := { program := "ytpbcamdjcnokfaa", sum := "af5bb5c62c6fa1b46b85d22c51c47ae90dbcf0951e5d9c85e0ff56e41e6a4650", func := "tontine/tontinelaw18.RingReads", spec := "ringReads", apart := false }
def RingReadsSaid : Prop := ringReadsRow.holds Try.pinned (OpenSpec.ofChange ringReadsSpec)

/-- ITS FALSE NEIGHBOUR: 'it returns false'. Refute it at one input. -/
def ringReadsWrong : ChangeSpec := { name := "ringReads", fn := fun _ => fun
  | [d1, d2] => { results := [.lit (.bool false)], args := [d1, d2] }
  | _ => none }
def RingReadsWrongFalsely : Prop := ringReadsRow.holds Try.pinned (OpenSpec.ofChange ringReadsWrong)

/-- 'tontinelaw18.RingLast': WHATEVER THE INPUT: true; the input reads as it did. -/
def ringLastSpec : ChangeSpec := { name := "ringLast", fn := fun _ => fun
  | [d1, d2] => { results := [.lit (.bool true)], args := [d1, d2] }
  | _ => none }
def ringLastRow : OpenClaim := { program := "ytpbcamdjcnokfaa", sum := "af5bb5c62c6fa1b46b85d22c51c47ae90dbcf0951e5d9c85e0ff56e41e6a4650", func := "tontine/tontinelaw18.RingLast", spec := "ringLast", apart := false }
def RingLastSaid : Prop := ringLastRow.holds Try.pinned (OpenSpec.ofChange ringLastSpec)

/-- ITS FALSE NEIGHBOUR: 'it returns false'. Refute it at one input. -/
def ringLastWrong : ChangeSpec := { name := "ringLast", fn := fun _ => fun
  | [d1, d2] => { results := [.lit (.bool false)], args := [d1, d2] }
  | _ => none }
def RingLastWrongFalsely : Prop := ringLastRow.holds Try.pinned (OpenSpec.ofChange ringLastWrong)

/-- 'tontinelaw19.MailPlays': WHATEVER THE INPUT: true; the input reads as it did. -/
def mailPlaysSpec : ChangeSpec := { name := "mailPlays", fn := fun _ => fun
  | [d1, d2] => { results := [.lit (.bool true)], args := [d1, d2] }
  | _ => none }
def mailPlaysRow : OpenClaim := { program := "ytpbcamdjcnokfaa", sum := "af5bb5c62c6fa1b46b85d22c51c47ae90dbcf0951e5d9c85e0ff56e41e6a4650", func := "tontine/tontinelaw19.MailPlays", spec := "mailPlays", apart := false }
def MailPlaysSaid : Prop := mailPlaysRow.holds Try.pinned (OpenSpec.ofChange mailPlaysSpec)

/-- ITS FALSE NEIGHBOUR: 'it returns false'. Refute it at one input. -/
def mailPlaysWrong : ChangeSpec := { name := "mailPlays", fn := fun _ => fun
  | [d1, d2] => { results := [.lit (.bool false)], args := [d1, d2] }
  | _ => none }
def MailPlaysWrongFalsely : Prop := mailPlaysRow.holds Try.pinned (OpenSpec.ofChange mailPlaysWrong)

/-- 'tontinelaw19.MailApart': WHATEVER THE INPUT: true; the input reads as it did. -/
def mailApartSpec : ChangeSpec := { name := "mailApart", fn := fun _ => fun
  | [d1, d2, d3] => { results := [.lit (.bool true)], args := [d1, d2, d3] }
  | _ => none }
def mailApartRow : OpenClaim := { program := "ytpbcamdjcnokfaa", sum := "af5bb5c62c6fa1b46b85d22c51c47ae90dbcf0951e5d9c85e0ff56e41e6a4650", func := "tontine/tontinelaw19.MailApart", spec := "mailApart", apart := false }
def MailApartSaid : Prop := mailApartRow.holds Try.pinned (OpenSpec.ofChange mailApartSpec)

/-- ITS FALSE NEIGHBOUR: 'it returns false'. Refute it at one input. -/
def mailApartWrong : ChangeSpec := { name := "mailApart", fn := fun _ => fun
  | [d1, d2, d3] => { results := [.lit (.bool false)], args := [d1, d2, d3] }
  | _ => none }
def MailApartWrongFalsely : Prop := mailApartRow.holds Try.pinned (OpenSpec.ofChange mailApartWrong)

/-- 'tontinelaw19.MailPurse': WHATEVER THE INPUT: true; the input reads as it did. -/
def mailPurseSpec : ChangeSpec := { name := "mailPurse", fn := fun _ => fun
  | [d1, d2] => { results := [.lit (.bool true)], args := [d1, d2] }
  | _ => none }
def mailPurseRow : OpenClaim := { program := "ytpbcamdjcnokfaa", sum := "af5bb5c62c6fa1b46b85d22c51c47ae90dbcf0951e5d9c85e0ff56e41e6a4650", func := "tontine/tontinelaw19.MailPurse", spec := "mailPurse", apart := false }
def MailPurseSaid : Prop := mailPurseRow.holds Try.pinned (OpenSpec.ofChange mailPurseSpec)

/-- ITS FALSE NEIGHBOUR: 'it returns false'. Refute it at one input. -/
def mailPurseWrong : ChangeSpec := { name := "mailPurse", fn := fun _ => fun
  | [d1, d2] => { results := [.lit (.bool false)], args := [d1, d2] }
  | _ => none }
def MailPurseWrongFalsely : Prop := mailPurseRow.holds Try.pinned (OpenSpec.ofChange mailPurseWrong)

/-- 'tontinelaw19.MailOrder': WHATEVER THE INPUT: true; the input reads as it did. -/
def mailOrderSpec : ChangeSpec := { name := "mailOrder", fn := fun _ => fun
  | [d1, d2, d3] => { results := [.lit (.bool true)], args := [d1, d2, d3] }
  | _ => none }
def mailOrderRow : OpenClaim := { program := "ytpbcamdjcnokfaa", sum := "af5bb5c62c6fa1b46b85d22c51c47ae90dbcf0951e5d9c85e0ff56e41e6a4650", func := "tontine/tontinelaw19.MailOrder", spec := "mailOrder", apart := false }
def MailOrderSaid : Prop := mailOrderRow.holds Try.pinned (OpenSpec.ofChange mailOrderSpec)

/-- ITS FALSE NEIGHBOUR: 'it returns false'. Refute it at one input. -/
def mailOrderWrong : ChangeSpec := { name := "mailOrder", fn := fun _ => fun
  | [d1, d2, d3] => { results := [.lit (.bool false)], args := [d1, d2, d3] }
  | _ => none }
def MailOrderWrongFalsely : Prop := mailOrderRow.holds Try.pinned (OpenSpec.ofChange mailOrderWrong)

/- THE SECOND FORM. 'bulk': how many values and letters a reading holds, each counted each time it is reached (what is shared counts as often as it is met; a slice's spare places count too). A statement '..UptoSaid' is the law's where the arguments, and the package variables that the reading takes, are together of bulk at most 1048576: NARROWER than '..Said'. Prove '..Said' where nothing that the law and all that it calls make is longer than what came in: it says more and counts as full. Else prove '..UptoSaid'. A law counts once. -/
mutual
def uptoBulk {H : Type} : DataW H → Nat
  | .lit (.string bytes) => bytes.length + 1
  | .lit _ => 1
  | .nil => 1
  | .ptr d => uptoBulk d + 1
  | .slice elems spare => uptoBulkAll elems + uptoBulkAll spare + 1
  | .agg parts => uptoBulkAll parts + 1
  | .iface _ d => uptoBulk d + 1
  | .map entries => uptoBulkEntries entries + 1
  | .held _ => 1
def uptoBulkAll {H : Type} : List (DataW H) → Nat
  | [] => 0
  | d :: r => uptoBulk d + uptoBulkAll r
def uptoBulkEntries {H : Type} : List (Lit × DataW H) → Nat
  | [] => 0
  | x :: r => uptoBulkEntry x + uptoBulkEntries r
def uptoBulkEntry {H : Type} : Lit × DataW H → Nat
  | (.string bytes, d) => bytes.length + uptoBulk d + 1
  | (_, d) => uptoBulk d + 1
 end
def uptoSmall : (H : Type) → List (DataW H) → Bool := fun _ ds => decide (uptoBulkAll ds ≤ 1048576)
def OpenSpec.upto (s : _root_.Go.ChangeSpec) : _root_.Go.OpenSpec := { _root_.Go.OpenSpec.ofChange s with cond := some uptoSmall }

/-- 'tontinelaw1.LabelTells', WHERE WHAT IT READS IS OF BULK AT MOST 1048576: true; the input reads as it did. -/
def labelTellsUptoRow : OpenClaim := { program := "ytpbcamdjcnokfaa", sum := "af5bb5c62c6fa1b46b85d22c51c47ae90dbcf0951e5d9c85e0ff56e41e6a4650", func := "tontine/tontinelaw1.LabelTells", spec := "labelTells", apart := false, narrowed := true }
def LabelTellsUptoSaid : Prop := labelTellsUptoRow.holds Try.pinned (OpenSpec.upto labelTellsSpec)

/-- 'tontinelaw1.LabelOrder', WHERE WHAT IT READS IS OF BULK AT MOST 1048576: true; the input reads as it did. -/
def labelOrderUptoRow : OpenClaim := { program := "ytpbcamdjcnokfaa", sum := "af5bb5c62c6fa1b46b85d22c51c47ae90dbcf0951e5d9c85e0ff56e41e6a4650", func := "tontine/tontinelaw1.LabelOrder", spec := "labelOrder", apart := false, narrowed := true }
def LabelOrderUptoSaid : Prop := labelOrderUptoRow.holds Try.pinned (OpenSpec.upto labelOrderSpec)

/-- 'tontinelaw1.LabelBounds', WHERE WHAT IT READS IS OF BULK AT MOST 1048576: true; the input reads as it did. -/
def labelBoundsUptoRow : OpenClaim := { program := "ytpbcamdjcnokfaa", sum := "af5bb5c62c6fa1b46b85d22c51c47ae90dbcf0951e5d9c85e0ff56e41e6a4650", func := "tontine/tontinelaw1.LabelBounds", spec := "labelBounds", apart := false, narrowed := true }
def LabelBoundsUptoSaid : Prop := labelBoundsUptoRow.holds Try.pinned (OpenSpec.upto labelBoundsSpec)

/-- 'tontinelaw1.LabelChains', WHERE WHAT IT READS IS OF BULK AT MOST 1048576: true; the input reads as it did. -/
def labelChainsUptoRow : OpenClaim := { program := "ytpbcamdjcnokfaa", sum := "af5bb5c62c6fa1b46b85d22c51c47ae90dbcf0951e5d9c85e0ff56e41e6a4650", func := "tontine/tontinelaw1.LabelChains", spec := "labelChains", apart := false, narrowed := true }
def LabelChainsUptoSaid : Prop := labelChainsUptoRow.holds Try.pinned (OpenSpec.upto labelChainsSpec)

/-- 'tontinelaw1.LabelLaws', WHERE WHAT IT READS IS OF BULK AT MOST 1048576: true; the input reads as it did. -/
def labelLawsUptoRow : OpenClaim := { program := "ytpbcamdjcnokfaa", sum := "af5bb5c62c6fa1b46b85d22c51c47ae90dbcf0951e5d9c85e0ff56e41e6a4650", func := "tontine/tontinelaw1.LabelLaws", spec := "labelLaws", apart := false, narrowed := true }
def LabelLawsUptoSaid : Prop := labelLawsUptoRow.holds Try.pinned (OpenSpec.upto labelLawsSpec)

/-- 'tontinelaw18.RingPlays', WHERE WHAT IT READS IS OF BULK AT MOST 1048576: true; the input reads as it did. -/
def ringPlaysUptoRow : OpenClaim := { program := "ytpbcamdjcnokfaa", sum := "af5bb5c62c6fa1b46b85d22c51c47ae90dbcf0951e5d9c85e0ff56e41e6a4650", func := "tontine/tontinelaw18.RingPlays", spec := "ringPlays", apart := false, narrowed := true }
def RingPlaysUptoSaid : Prop := ringPlaysUptoRow.holds Try.pinned (OpenSpec.upto ringPlaysSpec)

/-- 'tontinelaw18.RingReads', WHERE WHAT IT READS IS OF BULK AT MOST 1048576: true; the input reads as it did. -/
def ringReadsUptoRow : OpenClaim := { program := "ytpbcamdjcnokfaa", sum := "af5bb5c62c6fa1b46b85d22c51c47ae90dbcf0951e5d9c85e0ff56e41e6a4650", func := "tontine/tontinelaw18.RingReads", spec := "ringReads", apart := false, narrowed := true }
def RingReadsUptoSaid : Prop := ringReadsUptoRow.holds Try.pinned (OpenSpec.upto ringReadsSpec)

/-- 'tontinelaw18.RingLast', WHERE WHAT IT READS IS OF BULK AT MOST 1048576: true; the input reads as it did. -/
def ringLastUptoRow : OpenClaim := { program := "ytpbcamdjcnokfaa", sum := "af5bb5c62c6fa1b46b85d22c51c47ae90dbcf0951e5d9c85e0ff56e41e6a4650", func := "tontine/tontinelaw18.RingLast", spec := "ringLast", apart := false, narrowed := true }
def RingLastUptoSaid : Prop := ringLastUptoRow.holds Try.pinned (OpenSpec.upto ringLastSpec)

/-- 'tontinelaw19.MailPlays', WHERE WHAT IT READS IS OF BULK AT MOST 1048576: true; the input reads as it did. -/
def mailPlaysUptoRow : OpenClaim := { program := "ytpbcamdjcnokfaa", sum := "af5bb5c62c6fa1b46b85d22c51c47ae90dbcf0951e5d9c85e0ff56e41e6a4650", func := "tontine/tontinelaw19.MailPlays", spec := "mailPlays", apart := false, narrowed := true }
def MailPlaysUptoSaid : Prop := mailPlaysUptoRow.holds Try.pinned (OpenSpec.upto mailPlaysSpec)

/-- 'tontinelaw19.MailApart', WHERE WHAT IT READS IS OF BULK AT MOST 1048576: true; the input reads as it did. -/
def mailApartUptoRow : OpenClaim := { program := "ytpbcamdjcnokfaa", sum := "af5bb5c62c6fa1b46b85d22c51c47ae90dbcf0951e5d9c85e0ff56e41e6a4650", func := "tontine/tontinelaw19.MailApart", spec := "mailApart", apart := false, narrowed := true }
def MailApartUptoSaid : Prop := mailApartUptoRow.holds Try.pinned (OpenSpec.upto mailApartSpec)

/-- 'tontinelaw19.MailPurse', WHERE WHAT IT READS IS OF BULK AT MOST 1048576: true; the input reads as it did. -/
def mailPurseUptoRow : OpenClaim := { program := "ytpbcamdjcnokfaa", sum := "af5bb5c62c6fa1b46b85d22c51c47ae90dbcf0951e5d9c85e0ff56e41e6a4650", func := "tontine/tontinelaw19.MailPurse", spec := "mailPurse", apart := false, narrowed := true }
def MailPurseUptoSaid : Prop := mailPurseUptoRow.holds Try.pinned (OpenSpec.upto mailPurseSpec)

/-- 'tontinelaw19.MailOrder', WHERE WHAT IT READS IS OF BULK AT MOST 1048576: true; the input reads as it did. -/
def mailOrderUptoRow : OpenClaim := { program := "ytpbcamdjcnokfaa", sum := "af5bb5c62c6fa1b46b85d22c51c47ae90dbcf0951e5d9c85e0ff56e41e6a4650", func := "tontine/tontinelaw19.MailOrder", spec := "mailOrder", apart := false, narrowed := true }
def MailOrderUptoSaid : Prop := mailOrderUptoRow.holds Try.pinned (OpenSpec.upto mailOrderSpec)

end Rows
end Go.Proofs.Ytpbcamdjcnokfaa
