/-
  No cell of these rows narrows 'for every input' (looked for: loops, veiled, ifaces, maps, wideKeys, modest, calm, conditions, laid).
  DERIVED. THE GIVEN ROWS OF THIS SEAT. 8 by the template 'for every input the law returns true; each argument reads behind the call as it read before'; 0 by the template 'total and deterministic' (their statements: YtemhfkjdapegoaaTotals.lean).
  GIVEN WITH THE SEED: the statements are not yours to turn. If you find one false, say at which input.
  Laid BY PROGRAM, IN A SANDBOX (cutbox-rows.mjs): the forced cells as the released guide's own fill.sh prints them over the translation 910fdc0037ff76f4… (all of the seat's roots in one cut). By AI agents, Wed Nov 11 2026. No macro, syntax, notation, axiom, sorry.
-/
import Derived.Test.YtemhfkjdapegoaaChecked
import GoSem.Claim
import GoSem.ClaimJoined
import GoSem.ClaimMapViews
import Derived.JoinedTies
import Derived.KernelRfl
namespace Go.Proofs.Ytemhfkjdapegoaa
/- THE CELL 'sum', in the pinned program and in every row, IS THE sha256 OF THE DUMP (.gsa) THAT YtemhfkjdapegoaaProg.lean LOADS. Nothing in Lean hashes anything: it is a label: what it is worth is what the hold of that sum in a sandbox is worth. -/
noncomputable def Try.pinned : Pinned := { name := "ytemhfkjdapegoaa", sum := "910fdc0037ff76f4c39f479f76a8b43b3ece5619f2b3e3bcc922578edd01895f", checked := Try.checked }
namespace Rows
def none {H : Type} : Left H := { results := [], args := [] }

/-- 'celluloidlaw01.FixQuotients': WHATEVER THE INPUT: true; the input reads as it did. -/
def fixQuotientsSpec : ChangeSpec := { name := "fixQuotients", fn := fun _ => fun
  | [d1, d2] => { results := [.lit (.bool true)], args := [d1, d2] }
  | _ => none }
def fixQuotientsRow : OpenClaim := { program := "ytemhfkjdapegoaa", sum := "910fdc0037ff76f4c39f479f76a8b43b3ece5619f2b3e3bcc922578edd01895f", func := "celluloid/celluloidlaw01.FixQuotients", spec := "fixQuotients", inPlace := ["math/bits.Sub64"], named := ["math/bits.divideError", "math/bits.overflowError"], apart := false }
def FixQuotientsSaid : Prop := fixQuotientsRow.holds Try.pinned (OpenSpec.ofChange fixQuotientsSpec)

/-- ITS FALSE NEIGHBOUR: 'it returns false'. Refute it at one input. -/
def fixQuotientsWrong : ChangeSpec := { name := "fixQuotients", fn := fun _ => fun
  | [d1, d2] => { results := [.lit (.bool false)], args := [d1, d2] }
  | _ => none }
def FixQuotientsWrongFalsely : Prop := fixQuotientsRow.holds Try.pinned (OpenSpec.ofChange fixQuotientsWrong)

/-- 'celluloidlaw01.FixProducts': WHATEVER THE INPUT: true; the input reads as it did. -/
def fixProductsSpec : ChangeSpec := { name := "fixProducts", fn := fun _ => fun
  | [d1, d2, d3] => { results := [.lit (.bool true)], args := [d1, d2, d3] }
  | _ => none }
def fixProductsRow : OpenClaim := { program := "ytemhfkjdapegoaa", sum := "910fdc0037ff76f4c39f479f76a8b43b3ece5619f2b3e3bcc922578edd01895f", func := "celluloid/celluloidlaw01.FixProducts", spec := "fixProducts", inPlace := ["math/bits.Sub64"], named := ["math/bits.divideError", "math/bits.overflowError"], apart := false }
def FixProductsSaid : Prop := fixProductsRow.holds Try.pinned (OpenSpec.ofChange fixProductsSpec)

/-- ITS FALSE NEIGHBOUR: 'it returns false'. Refute it at one input. -/
def fixProductsWrong : ChangeSpec := { name := "fixProducts", fn := fun _ => fun
  | [d1, d2, d3] => { results := [.lit (.bool false)], args := [d1, d2, d3] }
  | _ => none }
def FixProductsWrongFalsely : Prop := fixProductsRow.holds Try.pinned (OpenSpec.ofChange fixProductsWrong)

/-- 'celluloidlaw01.FixLeft': WHATEVER THE INPUT: true; the input reads as it did. -/
def fixLeftSpec : ChangeSpec := { name := "fixLeft", fn := fun _ => fun
  | [d1, d2] => { results := [.lit (.bool true)], args := [d1, d2] }
  | _ => none }
def fixLeftRow : OpenClaim := { program := "ytemhfkjdapegoaa", sum := "910fdc0037ff76f4c39f479f76a8b43b3ece5619f2b3e3bcc922578edd01895f", func := "celluloid/celluloidlaw01.FixLeft", spec := "fixLeft", inPlace := ["math/bits.Sub64"], named := ["math/bits.divideError", "math/bits.overflowError"], apart := false }
def FixLeftSaid : Prop := fixLeftRow.holds Try.pinned (OpenSpec.ofChange fixLeftSpec)

/-- ITS FALSE NEIGHBOUR: 'it returns false'. Refute it at one input. -/
def fixLeftWrong : ChangeSpec := { name := "fixLeft", fn := fun _ => fun
  | [d1, d2] => { results := [.lit (.bool false)], args := [d1, d2] }
  | _ => none }
def FixLeftWrongFalsely : Prop := fixLeftRow.holds Try.pinned (OpenSpec.ofChange fixLeftWrong)

/-- 'celluloidlaw01.FixNear': WHATEVER THE INPUT: true; the input reads as it did. -/
def fixNearSpec : ChangeSpec := { name := "fixNear", fn := fun _ => fun
  | [d1, d2] => { results := [.lit (.bool true)], args := [d1, d2] }
  | _ => none }
def fixNearRow : OpenClaim := { program := "ytemhfkjdapegoaa", sum := "910fdc0037ff76f4c39f479f76a8b43b3ece5619f2b3e3bcc922578edd01895f", func := "celluloid/celluloidlaw01.FixNear", spec := "fixNear", inPlace := ["math/bits.Sub64"], named := ["math/bits.divideError", "math/bits.overflowError"], apart := false }
def FixNearSaid : Prop := fixNearRow.holds Try.pinned (OpenSpec.ofChange fixNearSpec)

/-- ITS FALSE NEIGHBOUR: 'it returns false'. Refute it at one input. -/
def fixNearWrong : ChangeSpec := { name := "fixNear", fn := fun _ => fun
  | [d1, d2] => { results := [.lit (.bool false)], args := [d1, d2] }
  | _ => none }
def FixNearWrongFalsely : Prop := fixNearRow.holds Try.pinned (OpenSpec.ofChange fixNearWrong)

/-- 'celluloidlaw01.FixSums': WHATEVER THE INPUT: true; the input reads as it did. -/
def fixSumsSpec : ChangeSpec := { name := "fixSums", fn := fun _ => fun
  | [d1, d2] => { results := [.lit (.bool true)], args := [d1, d2] }
  | _ => none }
def fixSumsRow : OpenClaim := { program := "ytemhfkjdapegoaa", sum := "910fdc0037ff76f4c39f479f76a8b43b3ece5619f2b3e3bcc922578edd01895f", func := "celluloid/celluloidlaw01.FixSums", spec := "fixSums", inPlace := ["math/bits.Sub64"], named := ["math/bits.divideError", "math/bits.overflowError"], apart := false }
def FixSumsSaid : Prop := fixSumsRow.holds Try.pinned (OpenSpec.ofChange fixSumsSpec)

/-- ITS FALSE NEIGHBOUR: 'it returns false'. Refute it at one input. -/
def fixSumsWrong : ChangeSpec := { name := "fixSums", fn := fun _ => fun
  | [d1, d2] => { results := [.lit (.bool false)], args := [d1, d2] }
  | _ => none }
def FixSumsWrongFalsely : Prop := fixSumsRow.holds Try.pinned (OpenSpec.ofChange fixSumsWrong)

/-- 'celluloidlaw01.FixOrder': WHATEVER THE INPUT: true; the input reads as it did. -/
def fixOrderSpec : ChangeSpec := { name := "fixOrder", fn := fun _ => fun
  | [d1, d2, d3, d4] => { results := [.lit (.bool true)], args := [d1, d2, d3, d4] }
  | _ => none }
def fixOrderRow : OpenClaim := { program := "ytemhfkjdapegoaa", sum := "910fdc0037ff76f4c39f479f76a8b43b3ece5619f2b3e3bcc922578edd01895f", func := "celluloid/celluloidlaw01.FixOrder", spec := "fixOrder", inPlace := ["math/bits.Sub64"], named := ["math/bits.divideError", "math/bits.overflowError"], apart := false }
def FixOrderSaid : Prop := fixOrderRow.holds Try.pinned (OpenSpec.ofChange fixOrderSpec)

/-- ITS FALSE NEIGHBOUR: 'it returns false'. Refute it at one input. -/
def fixOrderWrong : ChangeSpec := { name := "fixOrder", fn := fun _ => fun
  | [d1, d2, d3, d4] => { results := [.lit (.bool false)], args := [d1, d2, d3, d4] }
  | _ => none }
def FixOrderWrongFalsely : Prop := fixOrderRow.holds Try.pinned (OpenSpec.ofChange fixOrderWrong)

/-- 'celluloidlaw01.FixRoots': WHATEVER THE INPUT: true; the input reads as it did. -/
def fixRootsSpec : ChangeSpec := { name := "fixRoots", fn := fun _ => fun
  | [d] => { results := [.lit (.bool true)], args := [d] }
  | _ => none }
def fixRootsRow : OpenClaim := { program := "ytemhfkjdapegoaa", sum := "910fdc0037ff76f4c39f479f76a8b43b3ece5619f2b3e3bcc922578edd01895f", func := "celluloid/celluloidlaw01.FixRoots", spec := "fixRoots", inPlace := ["math/bits.Sub64"], named := ["math/bits.divideError", "math/bits.overflowError"], apart := false }
def FixRootsSaid : Prop := fixRootsRow.holds Try.pinned (OpenSpec.ofChange fixRootsSpec)

/-- ITS FALSE NEIGHBOUR: 'it returns false'. Refute it at one input. -/
def fixRootsWrong : ChangeSpec := { name := "fixRoots", fn := fun _ => fun
  | [d] => { results := [.lit (.bool false)], args := [d] }
  | _ => none }
def FixRootsWrongFalsely : Prop := fixRootsRow.holds Try.pinned (OpenSpec.ofChange fixRootsWrong)

/-- 'celluloidlaw01.FixTurns': WHATEVER THE INPUT: true; the input reads as it did. -/
def fixTurnsSpec : ChangeSpec := { name := "fixTurns", fn := fun _ => fun
  | [d1, d2, d3, d4] => { results := [.lit (.bool true)], args := [d1, d2, d3, d4] }
  | _ => none }
def fixTurnsRow : OpenClaim := { program := "ytemhfkjdapegoaa", sum := "910fdc0037ff76f4c39f479f76a8b43b3ece5619f2b3e3bcc922578edd01895f", func := "celluloid/celluloidlaw01.FixTurns", spec := "fixTurns", inPlace := ["math/bits.Sub64"], named := ["math/bits.divideError", "math/bits.overflowError"], apart := false }
def FixTurnsSaid : Prop := fixTurnsRow.holds Try.pinned (OpenSpec.ofChange fixTurnsSpec)

/-- ITS FALSE NEIGHBOUR: 'it returns false'. Refute it at one input. -/
def fixTurnsWrong : ChangeSpec := { name := "fixTurns", fn := fun _ => fun
  | [d1, d2, d3, d4] => { results := [.lit (.bool false)], args := [d1, d2, d3, d4] }
  | _ => none }
def FixTurnsWrongFalsely : Prop := fixTurnsRow.holds Try.pinned (OpenSpec.ofChange fixTurnsWrong)

/- THE SECOND FORM. 'bulk': how many values and letters a reading holds, each counted each time it is reached (what is shared counts as often as it is met; a slice's spare places count too). A statement '..UptoSaid' is the law's where the arguments, and the package variables that the reading takes, are together of bulk at most 1048576: NARROWER than '..Said'. Prove '..Said' where nothing that the law and all that it calls make is longer than what came in: it says more and counts as full. Else prove '..UptoSaid'. A law counts once. -/
mutual
def uptoBulk {H : Type} : DataW H → Nat
  | .lit (.string bytes) => bytes.length + 1
  | .lit _ => 1
  | .nil => 1
  | .ptr d => uptoBulk d + 1
  | .slice elems spare => uptoBulkAll elems + uptoBulkAll spare + 1
  | .agg parts => uptoBulkAll parts + 1
  | .iface _ d => uptoBulk d + 1
  | .map entries => uptoBulkEntries entries + 1
  | .held _ => 1
def uptoBulkAll {H : Type} : List (DataW H) → Nat
  | [] => 0
  | d :: r => uptoBulk d + uptoBulkAll r
def uptoBulkEntries {H : Type} : List (Lit × DataW H) → Nat
  | [] => 0
  | x :: r => uptoBulkEntry x + uptoBulkEntries r
def uptoBulkEntry {H : Type} : Lit × DataW H → Nat
  | (.string bytes, d) => bytes.length + uptoBulk d + 1
  | (_, d) => uptoBulk d + 1
 end
def uptoSmall : (H : Type) → List (DataW H) → Bool := fun _ ds => decide (uptoBulkAll ds ≤ 1048576)
def OpenSpec.upto (s : _root_.Go.ChangeSpec) : _root_.Go.OpenSpec := { _root_.Go.OpenSpec.ofChange s with cond := some uptoSmall }

/-- 'celluloidlaw01.FixQuotients', WHERE WHAT IT READS IS OF BULK AT MOST 1048576: true; the input reads as it did. -/
def fixQuotientsUptoRow : OpenClaim := { program := "ytemhfkjdapegoaa", sum := "910fdc0037ff76f4c39f479f76a8b43b3ece5619f2b3e3bcc922578edd01895f", func := "celluloid/celluloidlaw01.FixQuotients", spec := "fixQuotients", inPlace := ["math/bits.Sub64"], named := ["math/bits.divideError", "math/bits.overflowError"], apart := false, narrowed := true }
def FixQuotientsUptoSaid : Prop := fixQuotientsUptoRow.holds Try.pinned (OpenSpec.upto fixQuotientsSpec)

/-- 'celluloidlaw01.FixProducts', WHERE WHAT IT READS IS OF BULK AT MOST 1048576: true; the input reads as it did. -/
def fixProductsUptoRow : OpenClaim := { program := "ytemhfkjdapegoaa", sum := "910fdc0037ff76f4c39f479f76a8b43b3ece5619f2b3e3bcc922578edd01895f", func := "celluloid/celluloidlaw01.FixProducts", spec := "fixProducts", inPlace := ["math/bits.Sub64"], named := ["math/bits.divideError", "math/bits.overflowError"], apart := false, narrowed := true }
def FixProductsUptoSaid : Prop := fixProductsUptoRow.holds Try.pinned (OpenSpec.upto fixProductsSpec)

/-- 'celluloidlaw01.FixLeft', WHERE WHAT IT READS IS OF BULK AT MOST 1048576: true; the input reads as it did. -/
def fixLeftUptoRow : OpenClaim := { program := "ytemhfkjdapegoaa", sum := "910fdc0037ff76f4c39f479f76a8b43b3ece5619f2b3e3bcc922578edd01895f", func := "celluloid/celluloidlaw01.FixLeft", spec := "fixLeft", inPlace := ["math/bits.Sub64"], named := ["math/bits.divideError", "math/bits.overflowError"], apart := false, narrowed := true }
def FixLeftUptoSaid : Prop := fixLeftUptoRow.holds Try.pinned (OpenSpec.upto fixLeftSpec)

/-- 'celluloidlaw01.FixNear', WHERE WHAT IT READS IS OF BULK AT MOST 1048576: true; the input reads as it did. -/
def fixNearUptoRow : OpenClaim := { program := "ytemhfkjdapegoaa", sum := "910fdc0037ff76f4c39f479f76a8b43b3ece5619f2b3e3bcc922578edd01895f", func := "celluloid/celluloidlaw01.FixNear", spec := "fixNear", inPlace := ["math/bits.Sub64"], named := ["math/bits.divideError", "math/bits.overflowError"], apart := false, narrowed := true }
def FixNearUptoSaid : Prop := fixNearUptoRow.holds Try.pinned (OpenSpec.upto fixNearSpec)

/-- 'celluloidlaw01.FixSums', WHERE WHAT IT READS IS OF BULK AT MOST 1048576: true; the input reads as it did. -/
def fixSumsUptoRow : OpenClaim := { program := "ytemhfkjdapegoaa", sum := "910fdc0037ff76f4c39f479f76a8b43b3ece5619f2b3e3bcc922578edd01895f", func := "celluloid/celluloidlaw01.FixSums", spec := "fixSums", inPlace := ["math/bits.Sub64"], named := ["math/bits.divideError", "math/bits.overflowError"], apart := false, narrowed := true }
def FixSumsUptoSaid : Prop := fixSumsUptoRow.holds Try.pinned (OpenSpec.upto fixSumsSpec)

/-- 'celluloidlaw01.FixOrder', WHERE WHAT IT READS IS OF BULK AT MOST 1048576: true; the input reads as it did. -/
def fixOrderUptoRow : OpenClaim := { program := "ytemhfkjdapegoaa", sum := "910fdc0037ff76f4c39f479f76a8b43b3ece5619f2b3e3bcc922578edd01895f", func := "celluloid/celluloidlaw01.FixOrder", spec := "fixOrder", inPlace := ["math/bits.Sub64"], named := ["math/bits.divideError", "math/bits.overflowError"], apart := false, narrowed := true }
def FixOrderUptoSaid : Prop := fixOrderUptoRow.holds Try.pinned (OpenSpec.upto fixOrderSpec)

/-- 'celluloidlaw01.FixRoots', WHERE WHAT IT READS IS OF BULK AT MOST 1048576: true; the input reads as it did. -/
def fixRootsUptoRow : OpenClaim := { program := "ytemhfkjdapegoaa", sum := "910fdc0037ff76f4c39f479f76a8b43b3ece5619f2b3e3bcc922578edd01895f", func := "celluloid/celluloidlaw01.FixRoots", spec := "fixRoots", inPlace := ["math/bits.Sub64"], named := ["math/bits.divideError", "math/bits.overflowError"], apart := false, narrowed := true }
def FixRootsUptoSaid : Prop := fixRootsUptoRow.holds Try.pinned (OpenSpec.upto fixRootsSpec)

/-- 'celluloidlaw01.FixTurns', WHERE WHAT IT READS IS OF BULK AT MOST 1048576: true; the input reads as it did. -/
def fixTurnsUptoRow : OpenClaim := { program := "ytemhfkjdapegoaa", sum := "910fdc0037ff76f4c39f479f76a8b43b3ece5619f2b3e3bcc922578edd01895f", func := "celluloid/celluloidlaw01.FixTurns", spec := "fixTurns", inPlace := ["math/bits.Sub64"], named := ["math/bits.divideError", "math/bits.overflowError"], apart := false, narrowed := true }
def FixTurnsUptoSaid : Prop := fixTurnsUptoRow.holds Try.pinned (OpenSpec.upto fixTurnsSpec)

end Rows
end Go.Proofs.Ytemhfkjdapegoaa
