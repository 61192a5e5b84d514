/-
  No cell of these rows narrows 'for every input' (looked for: loops, veiled, ifaces, maps, wideKeys, modest, calm, conditions, laid).
  DERIVED. THE GIVEN ROWS OF THIS SEAT. 7 by the template 'for every input the law returns true; each argument reads behind the call as it read before'; 0 by the template 'total and deterministic' (their statements: YtdphpilcokloeaaTotals.lean).
  GIVEN WITH THE SEED: the statements are not yours to turn. If you find one false, say at which input.
  Laid BY PROGRAM, IN A SANDBOX (cutbox-rows.mjs): the forced cells as the released guide's own fill.sh prints them over the translation b71e82a148b1717c… (all of the seat's roots in one cut). By AI agents, Wed Nov 11 2026. No macro, syntax, notation, axiom, sorry.
-/
import Derived.Test.YtdphpilcokloeaaChecked
import GoSem.Claim
import GoSem.ClaimJoined
import GoSem.ClaimMapViews
import Derived.JoinedTies
import Derived.KernelRfl
namespace Go.Proofs.Ytdphpilcokloeaa
/- THE CELL 'sum', in the pinned program and in every row, IS THE sha256 OF THE DUMP (.gsa) THAT YtdphpilcokloeaaProg.lean LOADS. Nothing in Lean hashes anything: it is a label: what it is worth is what the hold of that sum in a sandbox is worth. -/
noncomputable def Try.pinned : Pinned := { name := "ytdphpilcokloeaa", sum := "b71e82a148b1717c6e591641e99c0f90bbf9d8498fb71a39a94517451f114684", checked := Try.checked }
namespace Rows
def none {H : Type} : Left H := { results := [], args := [] }

/-- 'celluloidlaw19.RampFolds': WHATEVER THE INPUT: true; the input reads as it did. -/
def rampFoldsSpec : ChangeSpec := { name := "rampFolds", fn := fun _ => fun
  | [d1, d2] => { results := [.lit (.bool true)], args := [d1, d2] }
  | _ => none }
def rampFoldsRow : OpenClaim := { program := "ytdphpilcokloeaa", sum := "b71e82a148b1717c6e591641e99c0f90bbf9d8498fb71a39a94517451f114684", func := "celluloid/celluloidlaw19.RampFolds", spec := "rampFolds", inPlace := ["math/bits.Sub64"], named := ["math/bits.divideError", "math/bits.overflowError"], apart := false }
def RampFoldsSaid : Prop := rampFoldsRow.holds Try.pinned (OpenSpec.ofChange rampFoldsSpec)

/-- ITS FALSE NEIGHBOUR: 'it returns false'. Refute it at one input. -/
def rampFoldsWrong : ChangeSpec := { name := "rampFolds", fn := fun _ => fun
  | [d1, d2] => { results := [.lit (.bool false)], args := [d1, d2] }
  | _ => none }
def RampFoldsWrongFalsely : Prop := rampFoldsRow.holds Try.pinned (OpenSpec.ofChange rampFoldsWrong)

/-- 'celluloidlaw19.RampColors': WHATEVER THE INPUT: true; the input reads as it did. -/
def rampColorsSpec : ChangeSpec := { name := "rampColors", fn := fun _ => fun
  | [d1, d2] => { results := [.lit (.bool true)], args := [d1, d2] }
  | _ => none }
def rampColorsRow : OpenClaim := { program := "ytdphpilcokloeaa", sum := "b71e82a148b1717c6e591641e99c0f90bbf9d8498fb71a39a94517451f114684", func := "celluloid/celluloidlaw19.RampColors", spec := "rampColors", inPlace := ["math/bits.Sub64"], named := ["math/bits.divideError", "math/bits.overflowError"], apart := false }
def RampColorsSaid : Prop := rampColorsRow.holds Try.pinned (OpenSpec.ofChange rampColorsSpec)

/-- ITS FALSE NEIGHBOUR: 'it returns false'. Refute it at one input. -/
def rampColorsWrong : ChangeSpec := { name := "rampColors", fn := fun _ => fun
  | [d1, d2] => { results := [.lit (.bool false)], args := [d1, d2] }
  | _ => none }
def RampColorsWrongFalsely : Prop := rampColorsRow.holds Try.pinned (OpenSpec.ofChange rampColorsWrong)

/-- 'celluloidlaw19.RampLies': WHATEVER THE INPUT: true; the input reads as it did. -/
def rampLiesSpec : ChangeSpec := { name := "rampLies", fn := fun _ => fun
  | [d1, d2] => { results := [.lit (.bool true)], args := [d1, d2] }
  | _ => none }
def rampLiesRow : OpenClaim := { program := "ytdphpilcokloeaa", sum := "b71e82a148b1717c6e591641e99c0f90bbf9d8498fb71a39a94517451f114684", func := "celluloid/celluloidlaw19.RampLies", spec := "rampLies", inPlace := ["math/bits.Sub64"], named := ["math/bits.divideError", "math/bits.overflowError"], apart := false }
def RampLiesSaid : Prop := rampLiesRow.holds Try.pinned (OpenSpec.ofChange rampLiesSpec)

/-- ITS FALSE NEIGHBOUR: 'it returns false'. Refute it at one input. -/
def rampLiesWrong : ChangeSpec := { name := "rampLies", fn := fun _ => fun
  | [d1, d2] => { results := [.lit (.bool false)], args := [d1, d2] }
  | _ => none }
def RampLiesWrongFalsely : Prop := rampLiesRow.holds Try.pinned (OpenSpec.ofChange rampLiesWrong)

/-- 'celluloidlaw19.RampTurns': WHATEVER THE INPUT: true; the input reads as it did. -/
def rampTurnsSpec : ChangeSpec := { name := "rampTurns", fn := fun _ => fun
  | [d1, d2] => { results := [.lit (.bool true)], args := [d1, d2] }
  | _ => none }
def rampTurnsRow : OpenClaim := { program := "ytdphpilcokloeaa", sum := "b71e82a148b1717c6e591641e99c0f90bbf9d8498fb71a39a94517451f114684", func := "celluloid/celluloidlaw19.RampTurns", spec := "rampTurns", inPlace := ["math/bits.Sub64"], named := ["math/bits.divideError", "math/bits.overflowError"], apart := false }
def RampTurnsSaid : Prop := rampTurnsRow.holds Try.pinned (OpenSpec.ofChange rampTurnsSpec)

/-- ITS FALSE NEIGHBOUR: 'it returns false'. Refute it at one input. -/
def rampTurnsWrong : ChangeSpec := { name := "rampTurns", fn := fun _ => fun
  | [d1, d2] => { results := [.lit (.bool false)], args := [d1, d2] }
  | _ => none }
def RampTurnsWrongFalsely : Prop := rampTurnsRow.holds Try.pinned (OpenSpec.ofChange rampTurnsWrong)

/-- 'celluloidlaw19.RampPlaces': WHATEVER THE INPUT: true; the input reads as it did. -/
def rampPlacesSpec : ChangeSpec := { name := "rampPlaces", fn := fun _ => fun
  | [d] => { results := [.lit (.bool true)], args := [d] }
  | _ => none }
def rampPlacesRow : OpenClaim := { program := "ytdphpilcokloeaa", sum := "b71e82a148b1717c6e591641e99c0f90bbf9d8498fb71a39a94517451f114684", func := "celluloid/celluloidlaw19.RampPlaces", spec := "rampPlaces", inPlace := ["math/bits.Sub64"], named := ["math/bits.divideError", "math/bits.overflowError"], apart := false }
def RampPlacesSaid : Prop := rampPlacesRow.holds Try.pinned (OpenSpec.ofChange rampPlacesSpec)

/-- ITS FALSE NEIGHBOUR: 'it returns false'. Refute it at one input. -/
def rampPlacesWrong : ChangeSpec := { name := "rampPlaces", fn := fun _ => fun
  | [d] => { results := [.lit (.bool false)], args := [d] }
  | _ => none }
def RampPlacesWrongFalsely : Prop := rampPlacesRow.holds Try.pinned (OpenSpec.ofChange rampPlacesWrong)

/-- 'celluloidlaw19.RampPoints': WHATEVER THE INPUT: true; the input reads as it did. -/
def rampPointsSpec : ChangeSpec := { name := "rampPoints", fn := fun _ => fun
  | [d1, d2] => { results := [.lit (.bool true)], args := [d1, d2] }
  | _ => none }
def rampPointsRow : OpenClaim := { program := "ytdphpilcokloeaa", sum := "b71e82a148b1717c6e591641e99c0f90bbf9d8498fb71a39a94517451f114684", func := "celluloid/celluloidlaw19.RampPoints", spec := "rampPoints", inPlace := ["math/bits.Sub64"], named := ["math/bits.divideError", "math/bits.overflowError"], apart := false }
def RampPointsSaid : Prop := rampPointsRow.holds Try.pinned (OpenSpec.ofChange rampPointsSpec)

/-- ITS FALSE NEIGHBOUR: 'it returns false'. Refute it at one input. -/
def rampPointsWrong : ChangeSpec := { name := "rampPoints", fn := fun _ => fun
  | [d1, d2] => { results := [.lit (.bool false)], args := [d1, d2] }
  | _ => none }
def RampPointsWrongFalsely : Prop := rampPointsRow.holds Try.pinned (OpenSpec.ofChange rampPointsWrong)

/-- 'celluloidlaw19.RampSame': WHATEVER THE INPUT: true; the input reads as it did. -/
def rampSameSpec : ChangeSpec := { name := "rampSame", fn := fun _ => fun
  | [d1, d2, d3, d4, d5, d6] => { results := [.lit (.bool true)], args := [d1, d2, d3, d4, d5, d6] }
  | _ => none }
def rampSameRow : OpenClaim := { program := "ytdphpilcokloeaa", sum := "b71e82a148b1717c6e591641e99c0f90bbf9d8498fb71a39a94517451f114684", func := "celluloid/celluloidlaw19.RampSame", spec := "rampSame", inPlace := ["math/bits.Sub64"], named := ["math/bits.divideError", "math/bits.overflowError"], apart := false }
def RampSameSaid : Prop := rampSameRow.holds Try.pinned (OpenSpec.ofChange rampSameSpec)

/-- ITS FALSE NEIGHBOUR: 'it returns false'. Refute it at one input. -/
def rampSameWrong : ChangeSpec := { name := "rampSame", fn := fun _ => fun
  | [d1, d2, d3, d4, d5, d6] => { results := [.lit (.bool false)], args := [d1, d2, d3, d4, d5, d6] }
  | _ => none }
def RampSameWrongFalsely : Prop := rampSameRow.holds Try.pinned (OpenSpec.ofChange rampSameWrong)

/- THE SECOND FORM. 'bulk': how many values and letters a reading holds, each counted each time it is reached (what is shared counts as often as it is met; a slice's spare places count too). A statement '..UptoSaid' is the law's where the arguments, and the package variables that the reading takes, are together of bulk at most 1048576: NARROWER than '..Said'. Prove '..Said' where nothing that the law and all that it calls make is longer than what came in: it says more and counts as full. Else prove '..UptoSaid'. A law counts once. -/
mutual
def uptoBulk {H : Type} : DataW H → Nat
  | .lit (.string bytes) => bytes.length + 1
  | .lit _ => 1
  | .nil => 1
  | .ptr d => uptoBulk d + 1
  | .slice elems spare => uptoBulkAll elems + uptoBulkAll spare + 1
  | .agg parts => uptoBulkAll parts + 1
  | .iface _ d => uptoBulk d + 1
  | .map entries => uptoBulkEntries entries + 1
  | .held _ => 1
def uptoBulkAll {H : Type} : List (DataW H) → Nat
  | [] => 0
  | d :: r => uptoBulk d + uptoBulkAll r
def uptoBulkEntries {H : Type} : List (Lit × DataW H) → Nat
  | [] => 0
  | x :: r => uptoBulkEntry x + uptoBulkEntries r
def uptoBulkEntry {H : Type} : Lit × DataW H → Nat
  | (.string bytes, d) => bytes.length + uptoBulk d + 1
  | (_, d) => uptoBulk d + 1
 end
def uptoSmall : (H : Type) → List (DataW H) → Bool := fun _ ds => decide (uptoBulkAll ds ≤ 1048576)
def OpenSpec.upto (s : _root_.Go.ChangeSpec) : _root_.Go.OpenSpec := { _root_.Go.OpenSpec.ofChange s with cond := some uptoSmall }

/-- 'celluloidlaw19.RampFolds', WHERE WHAT IT READS IS OF BULK AT MOST 1048576: true; the input reads as it did. -/
def rampFoldsUptoRow : OpenClaim := { program := "ytdphpilcokloeaa", sum := "b71e82a148b1717c6e591641e99c0f90bbf9d8498fb71a39a94517451f114684", func := "celluloid/celluloidlaw19.RampFolds", spec := "rampFolds", inPlace := ["math/bits.Sub64"], named := ["math/bits.divideError", "math/bits.overflowError"], apart := false, narrowed := true }
def RampFoldsUptoSaid : Prop := rampFoldsUptoRow.holds Try.pinned (OpenSpec.upto rampFoldsSpec)

/-- 'celluloidlaw19.RampColors', WHERE WHAT IT READS IS OF BULK AT MOST 1048576: true; the input reads as it did. -/
def rampColorsUptoRow : OpenClaim := { program := "ytdphpilcokloeaa", sum := "b71e82a148b1717c6e591641e99c0f90bbf9d8498fb71a39a94517451f114684", func := "celluloid/celluloidlaw19.RampColors", spec := "rampColors", inPlace := ["math/bits.Sub64"], named := ["math/bits.divideError", "math/bits.overflowError"], apart := false, narrowed := true }
def RampColorsUptoSaid : Prop := rampColorsUptoRow.holds Try.pinned (OpenSpec.upto rampColorsSpec)

/-- 'celluloidlaw19.RampLies', WHERE WHAT IT READS IS OF BULK AT MOST 1048576: true; the input reads as it did. -/
def rampLiesUptoRow : OpenClaim := { program := "ytdphpilcokloeaa", sum := "b71e82a148b1717c6e591641e99c0f90bbf9d8498fb71a39a94517451f114684", func := "celluloid/celluloidlaw19.RampLies", spec := "rampLies", inPlace := ["math/bits.Sub64"], named := ["math/bits.divideError", "math/bits.overflowError"], apart := false, narrowed := true }
def RampLiesUptoSaid : Prop := rampLiesUptoRow.holds Try.pinned (OpenSpec.upto rampLiesSpec)

/-- 'celluloidlaw19.RampTurns', WHERE WHAT IT READS IS OF BULK AT MOST 1048576: true; the input reads as it did. -/
def rampTurnsUptoRow : OpenClaim := { program := "ytdphpilcokloeaa", sum := "b71e82a148b1717c6e591641e99c0f90bbf9d8498fb71a39a94517451f114684", func := "celluloid/celluloidlaw19.RampTurns", spec := "rampTurns", inPlace := ["math/bits.Sub64"], named := ["math/bits.divideError", "math/bits.overflowError"], apart := false, narrowed := true }
def RampTurnsUptoSaid : Prop := rampTurnsUptoRow.holds Try.pinned (OpenSpec.upto rampTurnsSpec)

/-- 'celluloidlaw19.RampPlaces', WHERE WHAT IT READS IS OF BULK AT MOST 1048576: true; the input reads as it did. -/
def rampPlacesUptoRow : OpenClaim := { program := "ytdphpilcokloeaa", sum := "b71e82a148b1717c6e591641e99c0f90bbf9d8498fb71a39a94517451f114684", func := "celluloid/celluloidlaw19.RampPlaces", spec := "rampPlaces", inPlace := ["math/bits.Sub64"], named := ["math/bits.divideError", "math/bits.overflowError"], apart := false, narrowed := true }
def RampPlacesUptoSaid : Prop := rampPlacesUptoRow.holds Try.pinned (OpenSpec.upto rampPlacesSpec)

/-- 'celluloidlaw19.RampPoints', WHERE WHAT IT READS IS OF BULK AT MOST 1048576: true; the input reads as it did. -/
def rampPointsUptoRow : OpenClaim := { program := "ytdphpilcokloeaa", sum := "b71e82a148b1717c6e591641e99c0f90bbf9d8498fb71a39a94517451f114684", func := "celluloid/celluloidlaw19.RampPoints", spec := "rampPoints", inPlace := ["math/bits.Sub64"], named := ["math/bits.divideError", "math/bits.overflowError"], apart := false, narrowed := true }
def RampPointsUptoSaid : Prop := rampPointsUptoRow.holds Try.pinned (OpenSpec.upto rampPointsSpec)

/-- 'celluloidlaw19.RampSame', WHERE WHAT IT READS IS OF BULK AT MOST 1048576: true; the input reads as it did. -/
def rampSameUptoRow : OpenClaim := { program := "ytdphpilcokloeaa", sum := "b71e82a148b1717c6e591641e99c0f90bbf9d8498fb71a39a94517451f114684", func := "celluloid/celluloidlaw19.RampSame", spec := "rampSame", inPlace := ["math/bits.Sub64"], named := ["math/bits.divideError", "math/bits.overflowError"], apart := false, narrowed := true }
def RampSameUptoSaid : Prop := rampSameUptoRow.holds Try.pinned (OpenSpec.upto rampSameSpec)

end Rows
end Go.Proofs.Ytdphpilcokloeaa
