/-
  No cell of these rows narrows 'for every input' (looked for: loops, veiled, ifaces, maps, wideKeys, modest, calm, conditions, laid).
  DERIVED. THE GIVEN ROWS OF THIS SEAT. 5 by the template 'for every input the law returns true; each argument reads behind the call as it read before'; 0 by the template 'total and deterministic' (their statements: YtdhjcfgklbedjaaTotals.lean).
  GIVEN WITH THE SEED: the statements are not yours to turn. If you find one false, say at which input.
  Laid BY PROGRAM, IN A SANDBOX (cutbox-rows.mjs): the forced cells as the released guide's own fill.sh prints them over the translation a42bdf8e61f594ac… (all of the seat's roots in one cut). By AI agents, Wed Nov 11 2026. No macro, syntax, notation, axiom, sorry.
-/
import Derived.Test.YtdhjcfgklbedjaaChecked
import GoSem.Claim
import GoSem.ClaimJoined
import GoSem.ClaimMapViews
import Derived.JoinedTies
import Derived.KernelRfl
namespace Go.Proofs.Ytdhjcfgklbedjaa
/- THE CELL 'sum', in the pinned program and in every row, IS THE sha256 OF THE DUMP (.gsa) THAT YtdhjcfgklbedjaaProg.lean LOADS. Nothing in Lean hashes anything: it is a label: what it is worth is what the hold of that sum in a sandbox is worth. -/
noncomputable def Try.pinned : Pinned := { name := "ytdhjcfgklbedjaa", sum := "a42bdf8e61f594ac591c47cc99c67867116dd9625ca6a797b7df61c5c9f760ef", checked := Try.checked }
namespace Rows
def none {H : Type} : Left H := { results := [], args := [] }

/-- 'celluloidlaw16.CurveFlats': WHATEVER THE INPUT: true; the input reads as it did. -/
def curveFlatsSpec : ChangeSpec := { name := "curveFlats", fn := fun _ => fun
  | [d1, d2, d3] => { results := [.lit (.bool true)], args := [d1, d2, d3] }
  | _ => none }
def curveFlatsRow : OpenClaim := { program := "ytdhjcfgklbedjaa", sum := "a42bdf8e61f594ac591c47cc99c67867116dd9625ca6a797b7df61c5c9f760ef", func := "celluloid/celluloidlaw16.CurveFlats", spec := "curveFlats", inPlace := ["math/bits.Sub64"], named := ["math/bits.divideError", "math/bits.overflowError"], apart := false }
def CurveFlatsSaid : Prop := curveFlatsRow.holds Try.pinned (OpenSpec.ofChange curveFlatsSpec)

/-- ITS FALSE NEIGHBOUR: 'it returns false'. Refute it at one input. -/
def curveFlatsWrong : ChangeSpec := { name := "curveFlats", fn := fun _ => fun
  | [d1, d2, d3] => { results := [.lit (.bool false)], args := [d1, d2, d3] }
  | _ => none }
def CurveFlatsWrongFalsely : Prop := curveFlatsRow.holds Try.pinned (OpenSpec.ofChange curveFlatsWrong)

/-- 'celluloidlaw16.CurveLies': WHATEVER THE INPUT: true; the input reads as it did. -/
def curveLiesSpec : ChangeSpec := { name := "curveLies", fn := fun _ => fun
  | [d1, d2, d3] => { results := [.lit (.bool true)], args := [d1, d2, d3] }
  | _ => none }
def curveLiesRow : OpenClaim := { program := "ytdhjcfgklbedjaa", sum := "a42bdf8e61f594ac591c47cc99c67867116dd9625ca6a797b7df61c5c9f760ef", func := "celluloid/celluloidlaw16.CurveLies", spec := "curveLies", inPlace := ["math/bits.Sub64"], named := ["math/bits.divideError", "math/bits.overflowError"], apart := false }
def CurveLiesSaid : Prop := curveLiesRow.holds Try.pinned (OpenSpec.ofChange curveLiesSpec)

/-- ITS FALSE NEIGHBOUR: 'it returns false'. Refute it at one input. -/
def curveLiesWrong : ChangeSpec := { name := "curveLies", fn := fun _ => fun
  | [d1, d2, d3] => { results := [.lit (.bool false)], args := [d1, d2, d3] }
  | _ => none }
def CurveLiesWrongFalsely : Prop := curveLiesRow.holds Try.pinned (OpenSpec.ofChange curveLiesWrong)

/-- 'celluloidlaw16.CurveNear': WHATEVER THE INPUT: true; the input reads as it did. -/
def curveNearSpec : ChangeSpec := { name := "curveNear", fn := fun _ => fun
  | [d1, d2, d3] => { results := [.lit (.bool true)], args := [d1, d2, d3] }
  | _ => none }
def curveNearRow : OpenClaim := { program := "ytdhjcfgklbedjaa", sum := "a42bdf8e61f594ac591c47cc99c67867116dd9625ca6a797b7df61c5c9f760ef", func := "celluloid/celluloidlaw16.CurveNear", spec := "curveNear", inPlace := ["math/bits.Sub64"], named := ["math/bits.divideError", "math/bits.overflowError"], apart := false }
def CurveNearSaid : Prop := curveNearRow.holds Try.pinned (OpenSpec.ofChange curveNearSpec)

/-- ITS FALSE NEIGHBOUR: 'it returns false'. Refute it at one input. -/
def curveNearWrong : ChangeSpec := { name := "curveNear", fn := fun _ => fun
  | [d1, d2, d3] => { results := [.lit (.bool false)], args := [d1, d2, d3] }
  | _ => none }
def CurveNearWrongFalsely : Prop := curveNearRow.holds Try.pinned (OpenSpec.ofChange curveNearWrong)

/-- 'celluloidlaw16.CurveStraight': WHATEVER THE INPUT: true; the input reads as it did. -/
def curveStraightSpec : ChangeSpec := { name := "curveStraight", fn := fun _ => fun
  | [d1, d2, d3] => { results := [.lit (.bool true)], args := [d1, d2, d3] }
  | _ => none }
def curveStraightRow : OpenClaim := { program := "ytdhjcfgklbedjaa", sum := "a42bdf8e61f594ac591c47cc99c67867116dd9625ca6a797b7df61c5c9f760ef", func := "celluloid/celluloidlaw16.CurveStraight", spec := "curveStraight", inPlace := ["math/bits.Sub64"], named := ["math/bits.divideError", "math/bits.overflowError"], apart := false }
def CurveStraightSaid : Prop := curveStraightRow.holds Try.pinned (OpenSpec.ofChange curveStraightSpec)

/-- ITS FALSE NEIGHBOUR: 'it returns false'. Refute it at one input. -/
def curveStraightWrong : ChangeSpec := { name := "curveStraight", fn := fun _ => fun
  | [d1, d2, d3] => { results := [.lit (.bool false)], args := [d1, d2, d3] }
  | _ => none }
def CurveStraightWrongFalsely : Prop := curveStraightRow.holds Try.pinned (OpenSpec.ofChange curveStraightWrong)

/-- 'celluloidlaw16.CurveShifts': WHATEVER THE INPUT: true; the input reads as it did. -/
def curveShiftsSpec : ChangeSpec := { name := "curveShifts", fn := fun _ => fun
  | [d1, d2, d3, d4, d5] => { results := [.lit (.bool true)], args := [d1, d2, d3, d4, d5] }
  | _ => none }
def curveShiftsRow : OpenClaim := { program := "ytdhjcfgklbedjaa", sum := "a42bdf8e61f594ac591c47cc99c67867116dd9625ca6a797b7df61c5c9f760ef", func := "celluloid/celluloidlaw16.CurveShifts", spec := "curveShifts", inPlace := ["math/bits.Sub64"], named := ["math/bits.divideError", "math/bits.overflowError"], apart := false }
def CurveShiftsSaid : Prop := curveShiftsRow.holds Try.pinned (OpenSpec.ofChange curveShiftsSpec)

/-- ITS FALSE NEIGHBOUR: 'it returns false'. Refute it at one input. -/
def curveShiftsWrong : ChangeSpec := { name := "curveShifts", fn := fun _ => fun
  | [d1, d2, d3, d4, d5] => { results := [.lit (.bool false)], args := [d1, d2, d3, d4, d5] }
  | _ => none }
def CurveShiftsWrongFalsely : Prop := curveShiftsRow.holds Try.pinned (OpenSpec.ofChange curveShiftsWrong)

/- THE SECOND FORM. 'bulk': how many values and letters a reading holds, each counted each time it is reached (what is shared counts as often as it is met; a slice's spare places count too). A statement '..UptoSaid' is the law's where the arguments, and the package variables that the reading takes, are together of bulk at most 1048576: NARROWER than '..Said'. Prove '..Said' where nothing that the law and all that it calls make is longer than what came in: it says more and counts as full. Else prove '..UptoSaid'. A law counts once. -/
mutual
def uptoBulk {H : Type} : DataW H → Nat
  | .lit (.string bytes) => bytes.length + 1
  | .lit _ => 1
  | .nil => 1
  | .ptr d => uptoBulk d + 1
  | .slice elems spare => uptoBulkAll elems + uptoBulkAll spare + 1
  | .agg parts => uptoBulkAll parts + 1
  | .iface _ d => uptoBulk d + 1
  | .map entries => uptoBulkEntries entries + 1
  | .held _ => 1
def uptoBulkAll {H : Type} : List (DataW H) → Nat
  | [] => 0
  | d :: r => uptoBulk d + uptoBulkAll r
def uptoBulkEntries {H : Type} : List (Lit × DataW H) → Nat
  | [] => 0
  | x :: r => uptoBulkEntry x + uptoBulkEntries r
def uptoBulkEntry {H : Type} : Lit × DataW H → Nat
  | (.string bytes, d) => bytes.length + uptoBulk d + 1
  | (_, d) => uptoBulk d + 1
 end
def uptoSmall : (H : Type) → List (DataW H) → Bool := fun _ ds => decide (uptoBulkAll ds ≤ 1048576)
def OpenSpec.upto (s : _root_.Go.ChangeSpec) : _root_.Go.OpenSpec := { _root_.Go.OpenSpec.ofChange s with cond := some uptoSmall }

/-- 'celluloidlaw16.CurveFlats', WHERE WHAT IT READS IS OF BULK AT MOST 1048576: true; the input reads as it did. -/
def curveFlatsUptoRow : OpenClaim := { program := "ytdhjcfgklbedjaa", sum := "a42bdf8e61f594ac591c47cc99c67867116dd9625ca6a797b7df61c5c9f760ef", func := "celluloid/celluloidlaw16.CurveFlats", spec := "curveFlats", inPlace := ["math/bits.Sub64"], named := ["math/bits.divideError", "math/bits.overflowError"], apart := false, narrowed := true }
def CurveFlatsUptoSaid : Prop := curveFlatsUptoRow.holds Try.pinned (OpenSpec.upto curveFlatsSpec)

/-- 'celluloidlaw16.CurveLies', WHERE WHAT IT READS IS OF BULK AT MOST 1048576: true; the input reads as it did. -/
def curveLiesUptoRow : OpenClaim := { program := "ytdhjcfgklbedjaa", sum := "a42bdf8e61f594ac591c47cc99c67867116dd9625ca6a797b7df61c5c9f760ef", func := "celluloid/celluloidlaw16.CurveLies", spec := "curveLies", inPlace := ["math/bits.Sub64"], named := ["math/bits.divideError", "math/bits.overflowError"], apart := false, narrowed := true }
def CurveLiesUptoSaid : Prop := curveLiesUptoRow.holds Try.pinned (OpenSpec.upto curveLiesSpec)

/-- 'celluloidlaw16.CurveNear', WHERE WHAT IT READS IS OF BULK AT MOST 1048576: true; the input reads as it did. -/
def curveNearUptoRow : OpenClaim := { program := "ytdhjcfgklbedjaa", sum := "a42bdf8e61f594ac591c47cc99c67867116dd9625ca6a797b7df61c5c9f760ef", func := "celluloid/celluloidlaw16.CurveNear", spec := "curveNear", inPlace := ["math/bits.Sub64"], named := ["math/bits.divideError", "math/bits.overflowError"], apart := false, narrowed := true }
def CurveNearUptoSaid : Prop := curveNearUptoRow.holds Try.pinned (OpenSpec.upto curveNearSpec)

/-- 'celluloidlaw16.CurveStraight', WHERE WHAT IT READS IS OF BULK AT MOST 1048576: true; the input reads as it did. -/
def curveStraightUptoRow : OpenClaim := { program := "ytdhjcfgklbedjaa", sum := "a42bdf8e61f594ac591c47cc99c67867116dd9625ca6a797b7df61c5c9f760ef", func := "celluloid/celluloidlaw16.CurveStraight", spec := "curveStraight", inPlace := ["math/bits.Sub64"], named := ["math/bits.divideError", "math/bits.overflowError"], apart := false, narrowed := true }
def CurveStraightUptoSaid : Prop := curveStraightUptoRow.holds Try.pinned (OpenSpec.upto curveStraightSpec)

/-- 'celluloidlaw16.CurveShifts', WHERE WHAT IT READS IS OF BULK AT MOST 1048576: true; the input reads as it did. -/
def curveShiftsUptoRow : OpenClaim := { program := "ytdhjcfgklbedjaa", sum := "a42bdf8e61f594ac591c47cc99c67867116dd9625ca6a797b7df61c5c9f760ef", func := "celluloid/celluloidlaw16.CurveShifts", spec := "curveShifts", inPlace := ["math/bits.Sub64"], named := ["math/bits.divideError", "math/bits.overflowError"], apart := false, narrowed := true }
def CurveShiftsUptoSaid : Prop := curveShiftsUptoRow.holds Try.pinned (OpenSpec.upto curveShiftsSpec)

end Rows
end Go.Proofs.Ytdhjcfgklbedjaa
