/-
  No cell of these rows narrows 'for every input' (looked for: loops, veiled, ifaces, maps, wideKeys, modest, calm, conditions, laid).
  DERIVED. THE GIVEN ROWS OF THIS SEAT. 7 by the template 'for every input the law returns true; each argument reads behind the call as it read before'; 0 by the template 'total and deterministic' (their statements: YtgmegmhioiljcaaTotals.lean).
  GIVEN WITH THE SEED: the statements are not yours to turn. If you find one false, say at which input.
  Laid BY PROGRAM, IN A SANDBOX (cutbox-rows.mjs): the forced cells as the released guide's own fill.sh prints them over the translation 3c36351df1313e35… (all of the seat's roots in one cut). By AI agents, Wed Nov 11 2026. No macro, syntax, notation, axiom, sorry.
-/
import Derived.Test.YtgmegmhioiljcaaChecked
import GoSem.Claim
import GoSem.ClaimJoined
import GoSem.ClaimMapViews
import Derived.JoinedTies
import Derived.KernelRfl
namespace Go.Proofs.Ytgmegmhioiljcaa
/- THE CELL 'sum', in the pinned program and in every row, IS THE sha256 OF THE DUMP (.gsa) THAT YtgmegmhioiljcaaProg.lean LOADS. Nothing in Lean hashes anything: it is a label: what it is worth is what the hold of that sum in a sandbox is worth. -/
noncomputable def Try.pinned : Pinned := { name := "ytgmegmhioiljcaa", sum := "3c36351df1313e3554556bdbe0db7948381b30a3f627e183bc47b3c60c2ae546", checked := Try.checked }
namespace Rows
def none {H : Type} : Left H := { results := [], args := [] }

/-- 'celluloidlaw17.SweepWinds': WHATEVER THE INPUT: true; the input reads as it did. -/
def sweepWindsSpec : ChangeSpec := { name := "sweepWinds", fn := fun _ => fun
  | [d1, d2, d3, d4] => { results := [.lit (.bool true)], args := [d1, d2, d3, d4] }
  | _ => none }
def sweepWindsRow : OpenClaim := { program := "ytgmegmhioiljcaa", sum := "3c36351df1313e3554556bdbe0db7948381b30a3f627e183bc47b3c60c2ae546", func := "celluloid/celluloidlaw17.SweepWinds", spec := "sweepWinds", inPlace := ["math/bits.Sub64"], unfollowed := true, recurses := true, named := ["math/bits.divideError", "math/bits.overflowError"], apart := false }
def SweepWindsSaid : Prop := sweepWindsRow.holds Try.pinned (OpenSpec.ofChange sweepWindsSpec)

/-- ITS FALSE NEIGHBOUR: 'it returns false'. Refute it at one input. -/
def sweepWindsWrong : ChangeSpec := { name := "sweepWinds", fn := fun _ => fun
  | [d1, d2, d3, d4] => { results := [.lit (.bool false)], args := [d1, d2, d3, d4] }
  | _ => none }
def SweepWindsWrongFalsely : Prop := sweepWindsRow.holds Try.pinned (OpenSpec.ofChange sweepWindsWrong)

/-- 'celluloidlaw17.SweepOwns': WHATEVER THE INPUT: true; the input reads as it did. -/
def sweepOwnsSpec : ChangeSpec := { name := "sweepOwns", fn := fun _ => fun
  | [d1, d2, d3] => { results := [.lit (.bool true)], args := [d1, d2, d3] }
  | _ => none }
def sweepOwnsRow : OpenClaim := { program := "ytgmegmhioiljcaa", sum := "3c36351df1313e3554556bdbe0db7948381b30a3f627e183bc47b3c60c2ae546", func := "celluloid/celluloidlaw17.SweepOwns", spec := "sweepOwns", inPlace := ["math/bits.Sub64"], unfollowed := true, recurses := true, named := ["math/bits.divideError", "math/bits.overflowError"], apart := false }
def SweepOwnsSaid : Prop := sweepOwnsRow.holds Try.pinned (OpenSpec.ofChange sweepOwnsSpec)

/-- ITS FALSE NEIGHBOUR: 'it returns false'. Refute it at one input. -/
def sweepOwnsWrong : ChangeSpec := { name := "sweepOwns", fn := fun _ => fun
  | [d1, d2, d3] => { results := [.lit (.bool false)], args := [d1, d2, d3] }
  | _ => none }
def SweepOwnsWrongFalsely : Prop := sweepOwnsRow.holds Try.pinned (OpenSpec.ofChange sweepOwnsWrong)

/-- 'celluloidlaw17.SweepSums': WHATEVER THE INPUT: true; the input reads as it did. -/
def sweepSumsSpec : ChangeSpec := { name := "sweepSums", fn := fun _ => fun
  | [d1, d2, d3] => { results := [.lit (.bool true)], args := [d1, d2, d3] }
  | _ => none }
def sweepSumsRow : OpenClaim := { program := "ytgmegmhioiljcaa", sum := "3c36351df1313e3554556bdbe0db7948381b30a3f627e183bc47b3c60c2ae546", func := "celluloid/celluloidlaw17.SweepSums", spec := "sweepSums", inPlace := ["math/bits.Sub64"], unfollowed := true, recurses := true, named := ["math/bits.divideError", "math/bits.overflowError"], apart := false }
def SweepSumsSaid : Prop := sweepSumsRow.holds Try.pinned (OpenSpec.ofChange sweepSumsSpec)

/-- ITS FALSE NEIGHBOUR: 'it returns false'. Refute it at one input. -/
def sweepSumsWrong : ChangeSpec := { name := "sweepSums", fn := fun _ => fun
  | [d1, d2, d3] => { results := [.lit (.bool false)], args := [d1, d2, d3] }
  | _ => none }
def SweepSumsWrongFalsely : Prop := sweepSumsRow.holds Try.pinned (OpenSpec.ofChange sweepSumsWrong)

/-- 'celluloidlaw17.SweepTurns': WHATEVER THE INPUT: true; the input reads as it did. -/
def sweepTurnsSpec : ChangeSpec := { name := "sweepTurns", fn := fun _ => fun
  | [d1, d2, d3, d4] => { results := [.lit (.bool true)], args := [d1, d2, d3, d4] }
  | _ => none }
def sweepTurnsRow : OpenClaim := { program := "ytgmegmhioiljcaa", sum := "3c36351df1313e3554556bdbe0db7948381b30a3f627e183bc47b3c60c2ae546", func := "celluloid/celluloidlaw17.SweepTurns", spec := "sweepTurns", inPlace := ["math/bits.Sub64"], unfollowed := true, recurses := true, named := ["math/bits.divideError", "math/bits.overflowError"], apart := false }
def SweepTurnsSaid : Prop := sweepTurnsRow.holds Try.pinned (OpenSpec.ofChange sweepTurnsSpec)

/-- ITS FALSE NEIGHBOUR: 'it returns false'. Refute it at one input. -/
def sweepTurnsWrong : ChangeSpec := { name := "sweepTurns", fn := fun _ => fun
  | [d1, d2, d3, d4] => { results := [.lit (.bool false)], args := [d1, d2, d3, d4] }
  | _ => none }
def SweepTurnsWrongFalsely : Prop := sweepTurnsRow.holds Try.pinned (OpenSpec.ofChange sweepTurnsWrong)

/-- 'celluloidlaw17.SweepCuts': WHATEVER THE INPUT: true; the input reads as it did. -/
def sweepCutsSpec : ChangeSpec := { name := "sweepCuts", fn := fun _ => fun
  | [d1, d2, d3, d4] => { results := [.lit (.bool true)], args := [d1, d2, d3, d4] }
  | _ => none }
def sweepCutsRow : OpenClaim := { program := "ytgmegmhioiljcaa", sum := "3c36351df1313e3554556bdbe0db7948381b30a3f627e183bc47b3c60c2ae546", func := "celluloid/celluloidlaw17.SweepCuts", spec := "sweepCuts", inPlace := ["math/bits.Sub64"], unfollowed := true, recurses := true, named := ["math/bits.divideError", "math/bits.overflowError"], apart := false }
def SweepCutsSaid : Prop := sweepCutsRow.holds Try.pinned (OpenSpec.ofChange sweepCutsSpec)

/-- ITS FALSE NEIGHBOUR: 'it returns false'. Refute it at one input. -/
def sweepCutsWrong : ChangeSpec := { name := "sweepCuts", fn := fun _ => fun
  | [d1, d2, d3, d4] => { results := [.lit (.bool false)], args := [d1, d2, d3, d4] }
  | _ => none }
def SweepCutsWrongFalsely : Prop := sweepCutsRow.holds Try.pinned (OpenSpec.ofChange sweepCutsWrong)

/-- 'celluloidlaw17.SweepSquares': WHATEVER THE INPUT: true; the input reads as it did. -/
def sweepSquaresSpec : ChangeSpec := { name := "sweepSquares", fn := fun _ => fun
  | [d1, d2, d3, d4, d5] => { results := [.lit (.bool true)], args := [d1, d2, d3, d4, d5] }
  | _ => none }
def sweepSquaresRow : OpenClaim := { program := "ytgmegmhioiljcaa", sum := "3c36351df1313e3554556bdbe0db7948381b30a3f627e183bc47b3c60c2ae546", func := "celluloid/celluloidlaw17.SweepSquares", spec := "sweepSquares", inPlace := ["math/bits.Sub64"], unfollowed := true, recurses := true, named := ["math/bits.divideError", "math/bits.overflowError"], apart := false }
def SweepSquaresSaid : Prop := sweepSquaresRow.holds Try.pinned (OpenSpec.ofChange sweepSquaresSpec)

/-- ITS FALSE NEIGHBOUR: 'it returns false'. Refute it at one input. -/
def sweepSquaresWrong : ChangeSpec := { name := "sweepSquares", fn := fun _ => fun
  | [d1, d2, d3, d4, d5] => { results := [.lit (.bool false)], args := [d1, d2, d3, d4, d5] }
  | _ => none }
def SweepSquaresWrongFalsely : Prop := sweepSquaresRow.holds Try.pinned (OpenSpec.ofChange sweepSquaresWrong)

/-- 'celluloidlaw17.SweepShifts': WHATEVER THE INPUT: true; the input reads as it did. -/
def sweepShiftsSpec : ChangeSpec := { name := "sweepShifts", fn := fun _ => fun
  | [d1, d2, d3, d4, d5, d6] => { results := [.lit (.bool true)], args := [d1, d2, d3, d4, d5, d6] }
  | _ => none }
def sweepShiftsRow : OpenClaim := { program := "ytgmegmhioiljcaa", sum := "3c36351df1313e3554556bdbe0db7948381b30a3f627e183bc47b3c60c2ae546", func := "celluloid/celluloidlaw17.SweepShifts", spec := "sweepShifts", inPlace := ["math/bits.Sub64"], unfollowed := true, recurses := true, named := ["math/bits.divideError", "math/bits.overflowError"], apart := false }
def SweepShiftsSaid : Prop := sweepShiftsRow.holds Try.pinned (OpenSpec.ofChange sweepShiftsSpec)

/-- ITS FALSE NEIGHBOUR: 'it returns false'. Refute it at one input. -/
def sweepShiftsWrong : ChangeSpec := { name := "sweepShifts", fn := fun _ => fun
  | [d1, d2, d3, d4, d5, d6] => { results := [.lit (.bool false)], args := [d1, d2, d3, d4, d5, d6] }
  | _ => none }
def SweepShiftsWrongFalsely : Prop := sweepShiftsRow.holds Try.pinned (OpenSpec.ofChange sweepShiftsWrong)

/- THE SECOND FORM. 'bulk': how many values and letters a reading holds, each counted each time it is reached (what is shared counts as often as it is met; a slice's spare places count too). A statement '..UptoSaid' is the law's where the arguments, and the package variables that the reading takes, are together of bulk at most 1048576: NARROWER than '..Said'. Prove '..Said' where nothing that the law and all that it calls make is longer than what came in: it says more and counts as full. Else prove '..UptoSaid'. A law counts once. -/
mutual
def uptoBulk {H : Type} : DataW H → Nat
  | .lit (.string bytes) => bytes.length + 1
  | .lit _ => 1
  | .nil => 1
  | .ptr d => uptoBulk d + 1
  | .slice elems spare => uptoBulkAll elems + uptoBulkAll spare + 1
  | .agg parts => uptoBulkAll parts + 1
  | .iface _ d => uptoBulk d + 1
  | .map entries => uptoBulkEntries entries + 1
  | .held _ => 1
def uptoBulkAll {H : Type} : List (DataW H) → Nat
  | [] => 0
  | d :: r => uptoBulk d + uptoBulkAll r
def uptoBulkEntries {H : Type} : List (Lit × DataW H) → Nat
  | [] => 0
  | x :: r => uptoBulkEntry x + uptoBulkEntries r
def uptoBulkEntry {H : Type} : Lit × DataW H → Nat
  | (.string bytes, d) => bytes.length + uptoBulk d + 1
  | (_, d) => uptoBulk d + 1
 end
def uptoSmall : (H : Type) → List (DataW H) → Bool := fun _ ds => decide (uptoBulkAll ds ≤ 1048576)
def OpenSpec.upto (s : _root_.Go.ChangeSpec) : _root_.Go.OpenSpec := { _root_.Go.OpenSpec.ofChange s with cond := some uptoSmall }

/-- 'celluloidlaw17.SweepWinds', WHERE WHAT IT READS IS OF BULK AT MOST 1048576: true; the input reads as it did. -/
def sweepWindsUptoRow : OpenClaim := { program := "ytgmegmhioiljcaa", sum := "3c36351df1313e3554556bdbe0db7948381b30a3f627e183bc47b3c60c2ae546", func := "celluloid/celluloidlaw17.SweepWinds", spec := "sweepWinds", inPlace := ["math/bits.Sub64"], unfollowed := true, recurses := true, named := ["math/bits.divideError", "math/bits.overflowError"], apart := false, narrowed := true }
def SweepWindsUptoSaid : Prop := sweepWindsUptoRow.holds Try.pinned (OpenSpec.upto sweepWindsSpec)

/-- 'celluloidlaw17.SweepOwns', WHERE WHAT IT READS IS OF BULK AT MOST 1048576: true; the input reads as it did. -/
def sweepOwnsUptoRow : OpenClaim := { program := "ytgmegmhioiljcaa", sum := "3c36351df1313e3554556bdbe0db7948381b30a3f627e183bc47b3c60c2ae546", func := "celluloid/celluloidlaw17.SweepOwns", spec := "sweepOwns", inPlace := ["math/bits.Sub64"], unfollowed := true, recurses := true, named := ["math/bits.divideError", "math/bits.overflowError"], apart := false, narrowed := true }
def SweepOwnsUptoSaid : Prop := sweepOwnsUptoRow.holds Try.pinned (OpenSpec.upto sweepOwnsSpec)

/-- 'celluloidlaw17.SweepSums', WHERE WHAT IT READS IS OF BULK AT MOST 1048576: true; the input reads as it did. -/
def sweepSumsUptoRow : OpenClaim := { program := "ytgmegmhioiljcaa", sum := "3c36351df1313e3554556bdbe0db7948381b30a3f627e183bc47b3c60c2ae546", func := "celluloid/celluloidlaw17.SweepSums", spec := "sweepSums", inPlace := ["math/bits.Sub64"], unfollowed := true, recurses := true, named := ["math/bits.divideError", "math/bits.overflowError"], apart := false, narrowed := true }
def SweepSumsUptoSaid : Prop := sweepSumsUptoRow.holds Try.pinned (OpenSpec.upto sweepSumsSpec)

/-- 'celluloidlaw17.SweepTurns', WHERE WHAT IT READS IS OF BULK AT MOST 1048576: true; the input reads as it did. -/
def sweepTurnsUptoRow : OpenClaim := { program := "ytgmegmhioiljcaa", sum := "3c36351df1313e3554556bdbe0db7948381b30a3f627e183bc47b3c60c2ae546", func := "celluloid/celluloidlaw17.SweepTurns", spec := "sweepTurns", inPlace := ["math/bits.Sub64"], unfollowed := true, recurses := true, named := ["math/bits.divideError", "math/bits.overflowError"], apart := false, narrowed := true }
def SweepTurnsUptoSaid : Prop := sweepTurnsUptoRow.holds Try.pinned (OpenSpec.upto sweepTurnsSpec)

/-- 'celluloidlaw17.SweepCuts', WHERE WHAT IT READS IS OF BULK AT MOST 1048576: true; the input reads as it did. -/
def sweepCutsUptoRow : OpenClaim := { program := "ytgmegmhioiljcaa", sum := "3c36351df1313e3554556bdbe0db7948381b30a3f627e183bc47b3c60c2ae546", func := "celluloid/celluloidlaw17.SweepCuts", spec := "sweepCuts", inPlace := ["math/bits.Sub64"], unfollowed := true, recurses := true, named := ["math/bits.divideError", "math/bits.overflowError"], apart := false, narrowed := true }
def SweepCutsUptoSaid : Prop := sweepCutsUptoRow.holds Try.pinned (OpenSpec.upto sweepCutsSpec)

/-- 'celluloidlaw17.SweepSquares', WHERE WHAT IT READS IS OF BULK AT MOST 1048576: true; the input reads as it did. -/
def sweepSquaresUptoRow : OpenClaim := { program := "ytgmegmhioiljcaa", sum := "3c36351df1313e3554556bdbe0db7948381b30a3f627e183bc47b3c60c2ae546", func := "celluloid/celluloidlaw17.SweepSquares", spec := "sweepSquares", inPlace := ["math/bits.Sub64"], unfollowed := true, recurses := true, named := ["math/bits.divideError", "math/bits.overflowError"], apart := false, narrowed := true }
def SweepSquaresUptoSaid : Prop := sweepSquaresUptoRow.holds Try.pinned (OpenSpec.upto sweepSquaresSpec)

/-- 'celluloidlaw17.SweepShifts', WHERE WHAT IT READS IS OF BULK AT MOST 1048576: true; the input reads as it did. -/
def sweepShiftsUptoRow : OpenClaim := { program := "ytgmegmhioiljcaa", sum := "3c36351df1313e3554556bdbe0db7948381b30a3f627e183bc47b3c60c2ae546", func := "celluloid/celluloidlaw17.SweepShifts", spec := "sweepShifts", inPlace := ["math/bits.Sub64"], unfollowed := true, recurses := true, named := ["math/bits.divideError", "math/bits.overflowError"], apart := false, narrowed := true }
def SweepShiftsUptoSaid : Prop := sweepShiftsUptoRow.holds Try.pinned (OpenSpec.upto sweepShiftsSpec)

end Rows
end Go.Proofs.Ytgmegmhioiljcaa
