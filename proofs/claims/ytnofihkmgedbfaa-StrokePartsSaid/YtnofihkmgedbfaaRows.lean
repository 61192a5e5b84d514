/-
  No cell of these rows narrows 'for every input' (looked for: loops, veiled, ifaces, maps, wideKeys, modest, calm, conditions, laid).
  DERIVED. THE GIVEN ROWS OF THIS SEAT. 7 by the template 'for every input the law returns true; each argument reads behind the call as it read before'; 0 by the template 'total and deterministic' (their statements: YtnofihkmgedbfaaTotals.lean).
  GIVEN WITH THE SEED: the statements are not yours to turn. If you find one false, say at which input.
  Laid BY PROGRAM, IN A SANDBOX (cutbox-rows.mjs): the forced cells as the released guide's own fill.sh prints them over the translation 70e261146bf5a726… (all of the seat's roots in one cut). By AI agents, Wed Nov 11 2026. No macro, syntax, notation, axiom, sorry.
-/
import Derived.Test.YtnofihkmgedbfaaChecked
import GoSem.Claim
import GoSem.ClaimJoined
import GoSem.ClaimMapViews
import Derived.JoinedTies
import Derived.KernelRfl
namespace Go.Proofs.Ytnofihkmgedbfaa
/- THE CELL 'sum', in the pinned program and in every row, IS THE sha256 OF THE DUMP (.gsa) THAT YtnofihkmgedbfaaProg.lean LOADS. Nothing in Lean hashes anything: it is a label: what it is worth is what the hold of that sum in a sandbox is worth. -/
noncomputable def Try.pinned : Pinned := { name := "ytnofihkmgedbfaa", sum := "70e261146bf5a7268ec30b1d8e7036a2bac88903046bb0790dd3f370729567bb", checked := Try.checked }
namespace Rows
def none {H : Type} : Left H := { results := [], args := [] }

/-- 'celluloidlaw18.StrokeNears': WHATEVER THE INPUT: true; the input reads as it did. -/
def strokeNearsSpec : ChangeSpec := { name := "strokeNears", fn := fun _ => fun
  | [d1, d2, d3] => { results := [.lit (.bool true)], args := [d1, d2, d3] }
  | _ => none }
def strokeNearsRow : OpenClaim := { program := "ytnofihkmgedbfaa", sum := "70e261146bf5a7268ec30b1d8e7036a2bac88903046bb0790dd3f370729567bb", func := "celluloid/celluloidlaw18.StrokeNears", spec := "strokeNears", inPlace := ["math/bits.Sub64"], unfollowed := true, recurses := true, named := ["math/bits.divideError", "math/bits.overflowError"], apart := false }
def StrokeNearsSaid : Prop := strokeNearsRow.holds Try.pinned (OpenSpec.ofChange strokeNearsSpec)

/-- ITS FALSE NEIGHBOUR: 'it returns false'. Refute it at one input. -/
def strokeNearsWrong : ChangeSpec := { name := "strokeNears", fn := fun _ => fun
  | [d1, d2, d3] => { results := [.lit (.bool false)], args := [d1, d2, d3] }
  | _ => none }
def StrokeNearsWrongFalsely : Prop := strokeNearsRow.holds Try.pinned (OpenSpec.ofChange strokeNearsWrong)

/-- 'celluloidlaw18.StrokeOwns': WHATEVER THE INPUT: true; the input reads as it did. -/
def strokeOwnsSpec : ChangeSpec := { name := "strokeOwns", fn := fun _ => fun
  | [d1, d2, d3] => { results := [.lit (.bool true)], args := [d1, d2, d3] }
  | _ => none }
def strokeOwnsRow : OpenClaim := { program := "ytnofihkmgedbfaa", sum := "70e261146bf5a7268ec30b1d8e7036a2bac88903046bb0790dd3f370729567bb", func := "celluloid/celluloidlaw18.StrokeOwns", spec := "strokeOwns", inPlace := ["math/bits.Sub64"], unfollowed := true, recurses := true, named := ["math/bits.divideError", "math/bits.overflowError"], apart := false }
def StrokeOwnsSaid : Prop := strokeOwnsRow.holds Try.pinned (OpenSpec.ofChange strokeOwnsSpec)

/-- ITS FALSE NEIGHBOUR: 'it returns false'. Refute it at one input. -/
def strokeOwnsWrong : ChangeSpec := { name := "strokeOwns", fn := fun _ => fun
  | [d1, d2, d3] => { results := [.lit (.bool false)], args := [d1, d2, d3] }
  | _ => none }
def StrokeOwnsWrongFalsely : Prop := strokeOwnsRow.holds Try.pinned (OpenSpec.ofChange strokeOwnsWrong)

/-- 'celluloidlaw18.StrokeWidths': WHATEVER THE INPUT: true; the input reads as it did. -/
def strokeWidthsSpec : ChangeSpec := { name := "strokeWidths", fn := fun _ => fun
  | [d1, d2] => { results := [.lit (.bool true)], args := [d1, d2] }
  | _ => none }
def strokeWidthsRow : OpenClaim := { program := "ytnofihkmgedbfaa", sum := "70e261146bf5a7268ec30b1d8e7036a2bac88903046bb0790dd3f370729567bb", func := "celluloid/celluloidlaw18.StrokeWidths", spec := "strokeWidths", inPlace := ["math/bits.Sub64"], unfollowed := true, recurses := true, named := ["math/bits.divideError", "math/bits.overflowError"], apart := false }
def StrokeWidthsSaid : Prop := strokeWidthsRow.holds Try.pinned (OpenSpec.ofChange strokeWidthsSpec)

/-- ITS FALSE NEIGHBOUR: 'it returns false'. Refute it at one input. -/
def strokeWidthsWrong : ChangeSpec := { name := "strokeWidths", fn := fun _ => fun
  | [d1, d2] => { results := [.lit (.bool false)], args := [d1, d2] }
  | _ => none }
def StrokeWidthsWrongFalsely : Prop := strokeWidthsRow.holds Try.pinned (OpenSpec.ofChange strokeWidthsWrong)

/-- 'celluloidlaw18.StrokeWider': WHATEVER THE INPUT: true; the input reads as it did. -/
def strokeWiderSpec : ChangeSpec := { name := "strokeWider", fn := fun _ => fun
  | [d1, d2, d3, d4] => { results := [.lit (.bool true)], args := [d1, d2, d3, d4] }
  | _ => none }
def strokeWiderRow : OpenClaim := { program := "ytnofihkmgedbfaa", sum := "70e261146bf5a7268ec30b1d8e7036a2bac88903046bb0790dd3f370729567bb", func := "celluloid/celluloidlaw18.StrokeWider", spec := "strokeWider", inPlace := ["math/bits.Sub64"], unfollowed := true, recurses := true, named := ["math/bits.divideError", "math/bits.overflowError"], apart := false }
def StrokeWiderSaid : Prop := strokeWiderRow.holds Try.pinned (OpenSpec.ofChange strokeWiderSpec)

/-- ITS FALSE NEIGHBOUR: 'it returns false'. Refute it at one input. -/
def strokeWiderWrong : ChangeSpec := { name := "strokeWider", fn := fun _ => fun
  | [d1, d2, d3, d4] => { results := [.lit (.bool false)], args := [d1, d2, d3, d4] }
  | _ => none }
def StrokeWiderWrongFalsely : Prop := strokeWiderRow.holds Try.pinned (OpenSpec.ofChange strokeWiderWrong)

/-- 'celluloidlaw18.StrokeParts': WHATEVER THE INPUT: true; the input reads as it did. -/
def strokePartsSpec : ChangeSpec := { name := "strokeParts", fn := fun _ => fun
  | [d1, d2, d3] => { results := [.lit (.bool true)], args := [d1, d2, d3] }
  | _ => none }
def strokePartsRow : OpenClaim := { program := "ytnofihkmgedbfaa", sum := "70e261146bf5a7268ec30b1d8e7036a2bac88903046bb0790dd3f370729567bb", func := "celluloid/celluloidlaw18.StrokeParts", spec := "strokeParts", inPlace := ["math/bits.Sub64"], unfollowed := true, recurses := true, named := ["math/bits.divideError", "math/bits.overflowError"], apart := false }
def StrokePartsSaid : Prop := strokePartsRow.holds Try.pinned (OpenSpec.ofChange strokePartsSpec)

/-- ITS FALSE NEIGHBOUR: 'it returns false'. Refute it at one input. -/
def strokePartsWrong : ChangeSpec := { name := "strokeParts", fn := fun _ => fun
  | [d1, d2, d3] => { results := [.lit (.bool false)], args := [d1, d2, d3] }
  | _ => none }
def StrokePartsWrongFalsely : Prop := strokePartsRow.holds Try.pinned (OpenSpec.ofChange strokePartsWrong)

/-- 'celluloidlaw18.StrokeDots': WHATEVER THE INPUT: true; the input reads as it did. -/
def strokeDotsSpec : ChangeSpec := { name := "strokeDots", fn := fun _ => fun
  | [d1, d2, d3] => { results := [.lit (.bool true)], args := [d1, d2, d3] }
  | _ => none }
def strokeDotsRow : OpenClaim := { program := "ytnofihkmgedbfaa", sum := "70e261146bf5a7268ec30b1d8e7036a2bac88903046bb0790dd3f370729567bb", func := "celluloid/celluloidlaw18.StrokeDots", spec := "strokeDots", inPlace := ["math/bits.Sub64"], unfollowed := true, recurses := true, named := ["math/bits.divideError", "math/bits.overflowError"], apart := false }
def StrokeDotsSaid : Prop := strokeDotsRow.holds Try.pinned (OpenSpec.ofChange strokeDotsSpec)

/-- ITS FALSE NEIGHBOUR: 'it returns false'. Refute it at one input. -/
def strokeDotsWrong : ChangeSpec := { name := "strokeDots", fn := fun _ => fun
  | [d1, d2, d3] => { results := [.lit (.bool false)], args := [d1, d2, d3] }
  | _ => none }
def StrokeDotsWrongFalsely : Prop := strokeDotsRow.holds Try.pinned (OpenSpec.ofChange strokeDotsWrong)

/-- 'celluloidlaw18.StrokeShifts': WHATEVER THE INPUT: true; the input reads as it did. -/
def strokeShiftsSpec : ChangeSpec := { name := "strokeShifts", fn := fun _ => fun
  | [d1, d2, d3, d4, d5] => { results := [.lit (.bool true)], args := [d1, d2, d3, d4, d5] }
  | _ => none }
def strokeShiftsRow : OpenClaim := { program := "ytnofihkmgedbfaa", sum := "70e261146bf5a7268ec30b1d8e7036a2bac88903046bb0790dd3f370729567bb", func := "celluloid/celluloidlaw18.StrokeShifts", spec := "strokeShifts", inPlace := ["math/bits.Sub64"], unfollowed := true, recurses := true, named := ["math/bits.divideError", "math/bits.overflowError"], apart := false }
def StrokeShiftsSaid : Prop := strokeShiftsRow.holds Try.pinned (OpenSpec.ofChange strokeShiftsSpec)

/-- ITS FALSE NEIGHBOUR: 'it returns false'. Refute it at one input. -/
def strokeShiftsWrong : ChangeSpec := { name := "strokeShifts", fn := fun _ => fun
  | [d1, d2, d3, d4, d5] => { results := [.lit (.bool false)], args := [d1, d2, d3, d4, d5] }
  | _ => none }
def StrokeShiftsWrongFalsely : Prop := strokeShiftsRow.holds Try.pinned (OpenSpec.ofChange strokeShiftsWrong)

/- THE SECOND FORM. 'bulk': how many values and letters a reading holds, each counted each time it is reached (what is shared counts as often as it is met; a slice's spare places count too). A statement '..UptoSaid' is the law's where the arguments, and the package variables that the reading takes, are together of bulk at most 1048576: NARROWER than '..Said'. Prove '..Said' where nothing that the law and all that it calls make is longer than what came in: it says more and counts as full. Else prove '..UptoSaid'. A law counts once. -/
mutual
def uptoBulk {H : Type} : DataW H → Nat
  | .lit (.string bytes) => bytes.length + 1
  | .lit _ => 1
  | .nil => 1
  | .ptr d => uptoBulk d + 1
  | .slice elems spare => uptoBulkAll elems + uptoBulkAll spare + 1
  | .agg parts => uptoBulkAll parts + 1
  | .iface _ d => uptoBulk d + 1
  | .map entries => uptoBulkEntries entries + 1
  | .held _ => 1
def uptoBulkAll {H : Type} : List (DataW H) → Nat
  | [] => 0
  | d :: r => uptoBulk d + uptoBulkAll r
def uptoBulkEntries {H : Type} : List (Lit × DataW H) → Nat
  | [] => 0
  | x :: r => uptoBulkEntry x + uptoBulkEntries r
def uptoBulkEntry {H : Type} : Lit × DataW H → Nat
  | (.string bytes, d) => bytes.length + uptoBulk d + 1
  | (_, d) => uptoBulk d + 1
 end
def uptoSmall : (H : Type) → List (DataW H) → Bool := fun _ ds => decide (uptoBulkAll ds ≤ 1048576)
def OpenSpec.upto (s : _root_.Go.ChangeSpec) : _root_.Go.OpenSpec := { _root_.Go.OpenSpec.ofChange s with cond := some uptoSmall }

/-- 'celluloidlaw18.StrokeNears', WHERE WHAT IT READS IS OF BULK AT MOST 1048576: true; the input reads as it did. -/
def strokeNearsUptoRow : OpenClaim := { program := "ytnofihkmgedbfaa", sum := "70e261146bf5a7268ec30b1d8e7036a2bac88903046bb0790dd3f370729567bb", func := "celluloid/celluloidlaw18.StrokeNears", spec := "strokeNears", inPlace := ["math/bits.Sub64"], unfollowed := true, recurses := true, named := ["math/bits.divideError", "math/bits.overflowError"], apart := false, narrowed := true }
def StrokeNearsUptoSaid : Prop := strokeNearsUptoRow.holds Try.pinned (OpenSpec.upto strokeNearsSpec)

/-- 'celluloidlaw18.StrokeOwns', WHERE WHAT IT READS IS OF BULK AT MOST 1048576: true; the input reads as it did. -/
def strokeOwnsUptoRow : OpenClaim := { program := "ytnofihkmgedbfaa", sum := "70e261146bf5a7268ec30b1d8e7036a2bac88903046bb0790dd3f370729567bb", func := "celluloid/celluloidlaw18.StrokeOwns", spec := "strokeOwns", inPlace := ["math/bits.Sub64"], unfollowed := true, recurses := true, named := ["math/bits.divideError", "math/bits.overflowError"], apart := false, narrowed := true }
def StrokeOwnsUptoSaid : Prop := strokeOwnsUptoRow.holds Try.pinned (OpenSpec.upto strokeOwnsSpec)

/-- 'celluloidlaw18.StrokeWidths', WHERE WHAT IT READS IS OF BULK AT MOST 1048576: true; the input reads as it did. -/
def strokeWidthsUptoRow : OpenClaim := { program := "ytnofihkmgedbfaa", sum := "70e261146bf5a7268ec30b1d8e7036a2bac88903046bb0790dd3f370729567bb", func := "celluloid/celluloidlaw18.StrokeWidths", spec := "strokeWidths", inPlace := ["math/bits.Sub64"], unfollowed := true, recurses := true, named := ["math/bits.divideError", "math/bits.overflowError"], apart := false, narrowed := true }
def StrokeWidthsUptoSaid : Prop := strokeWidthsUptoRow.holds Try.pinned (OpenSpec.upto strokeWidthsSpec)

/-- 'celluloidlaw18.StrokeWider', WHERE WHAT IT READS IS OF BULK AT MOST 1048576: true; the input reads as it did. -/
def strokeWiderUptoRow : OpenClaim := { program := "ytnofihkmgedbfaa", sum := "70e261146bf5a7268ec30b1d8e7036a2bac88903046bb0790dd3f370729567bb", func := "celluloid/celluloidlaw18.StrokeWider", spec := "strokeWider", inPlace := ["math/bits.Sub64"], unfollowed := true, recurses := true, named := ["math/bits.divideError", "math/bits.overflowError"], apart := false, narrowed := true }
def StrokeWiderUptoSaid : Prop := strokeWiderUptoRow.holds Try.pinned (OpenSpec.upto strokeWiderSpec)

/-- 'celluloidlaw18.StrokeParts', WHERE WHAT IT READS IS OF BULK AT MOST 1048576: true; the input reads as it did. -/
def strokePartsUptoRow : OpenClaim := { program := "ytnofihkmgedbfaa", sum := "70e261146bf5a7268ec30b1d8e7036a2bac88903046bb0790dd3f370729567bb", func := "celluloid/celluloidlaw18.StrokeParts", spec := "strokeParts", inPlace := ["math/bits.Sub64"], unfollowed := true, recurses := true, named := ["math/bits.divideError", "math/bits.overflowError"], apart := false, narrowed := true }
def StrokePartsUptoSaid : Prop := strokePartsUptoRow.holds Try.pinned (OpenSpec.upto strokePartsSpec)

/-- 'celluloidlaw18.StrokeDots', WHERE WHAT IT READS IS OF BULK AT MOST 1048576: true; the input reads as it did. -/
def strokeDotsUptoRow : OpenClaim := { program := "ytnofihkmgedbfaa", sum := "70e261146bf5a7268ec30b1d8e7036a2bac88903046bb0790dd3f370729567bb", func := "celluloid/celluloidlaw18.StrokeDots", spec := "strokeDots", inPlace := ["math/bits.Sub64"], unfollowed := true, recurses := true, named := ["math/bits.divideError", "math/bits.overflowError"], apart := false, narrowed := true }
def StrokeDotsUptoSaid : Prop := strokeDotsUptoRow.holds Try.pinned (OpenSpec.upto strokeDotsSpec)

/-- 'celluloidlaw18.StrokeShifts', WHERE WHAT IT READS IS OF BULK AT MOST 1048576: true; the input reads as it did. -/
def strokeShiftsUptoRow : OpenClaim := { program := "ytnofihkmgedbfaa", sum := "70e261146bf5a7268ec30b1d8e7036a2bac88903046bb0790dd3f370729567bb", func := "celluloid/celluloidlaw18.StrokeShifts", spec := "strokeShifts", inPlace := ["math/bits.Sub64"], unfollowed := true, recurses := true, named := ["math/bits.divideError", "math/bits.overflowError"], apart := false, narrowed := true }
def StrokeShiftsUptoSaid : Prop := strokeShiftsUptoRow.holds Try.pinned (OpenSpec.upto strokeShiftsSpec)

end Rows
end Go.Proofs.Ytnofihkmgedbfaa
