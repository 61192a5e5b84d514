/-
  No cell of these rows narrows 'for every input' (looked for: loops, veiled, ifaces, maps, wideKeys, modest, calm, conditions, laid).
  DERIVED. THE GIVEN ROWS OF THIS SEAT. 5 by the template 'for every input the law returns true; each argument reads behind the call as it read before'; 0 by the template 'total and deterministic' (their statements: YtlldbmodidhidaaTotals.lean).
  GIVEN WITH THE SEED: the statements are not yours to turn. If you find one false, say at which input.
  Laid BY PROGRAM, IN A SANDBOX (cutbox-rows.mjs): the forced cells as the released guide's own fill.sh prints them over the translation 843d3e7182542b0a… (all of the seat's roots in one cut). By AI agents, Wed Nov 11 2026. No macro, syntax, notation, axiom, sorry.
-/
import Derived.Test.YtlldbmodidhidaaChecked
import GoSem.Claim
import GoSem.ClaimJoined
import GoSem.ClaimMapViews
import Derived.JoinedTies
import Derived.KernelRfl
namespace Go.Proofs.Ytlldbmodidhidaa
/- THE CELL 'sum', in the pinned program and in every row, IS THE sha256 OF THE DUMP (.gsa) THAT YtlldbmodidhidaaProg.lean LOADS. Nothing in Lean hashes anything: it is a label: what it is worth is what the hold of that sum in a sandbox is worth. -/
noncomputable def Try.pinned : Pinned := { name := "ytlldbmodidhidaa", sum := "843d3e7182542b0a504aa72bad25a37aab7ddb0561cd183070f2391e41cc224b", checked := Try.checked }
namespace Rows
def none {H : Type} : Left H := { results := [], args := [] }

/-- 'celluloidlaw15.EdgePaths': WHATEVER THE INPUT: true; the input reads as it did. -/
def edgePathsSpec : ChangeSpec := { name := "edgePaths", fn := fun _ => fun
  | [d] => { results := [.lit (.bool true)], args := [d] }
  | _ => none }
def edgePathsRow : OpenClaim := { program := "ytlldbmodidhidaa", sum := "843d3e7182542b0a504aa72bad25a37aab7ddb0561cd183070f2391e41cc224b", func := "celluloid/celluloidlaw15.EdgePaths", spec := "edgePaths", unfollowed := true, recurses := true, apart := false }
def EdgePathsSaid : Prop := edgePathsRow.holds Try.pinned (OpenSpec.ofChange edgePathsSpec)

/-- ITS FALSE NEIGHBOUR: 'it returns false'. Refute it at one input. -/
def edgePathsWrong : ChangeSpec := { name := "edgePaths", fn := fun _ => fun
  | [d] => { results := [.lit (.bool false)], args := [d] }
  | _ => none }
def EdgePathsWrongFalsely : Prop := edgePathsRow.holds Try.pinned (OpenSpec.ofChange edgePathsWrong)

/-- 'celluloidlaw15.EdgeGoes': WHATEVER THE INPUT: true; the input reads as it did. -/
def edgeGoesSpec : ChangeSpec := { name := "edgeGoes", fn := fun _ => fun
  | [d] => { results := [.lit (.bool true)], args := [d] }
  | _ => none }
def edgeGoesRow : OpenClaim := { program := "ytlldbmodidhidaa", sum := "843d3e7182542b0a504aa72bad25a37aab7ddb0561cd183070f2391e41cc224b", func := "celluloid/celluloidlaw15.EdgeGoes", spec := "edgeGoes", unfollowed := true, recurses := true, apart := false }
def EdgeGoesSaid : Prop := edgeGoesRow.holds Try.pinned (OpenSpec.ofChange edgeGoesSpec)

/-- ITS FALSE NEIGHBOUR: 'it returns false'. Refute it at one input. -/
def edgeGoesWrong : ChangeSpec := { name := "edgeGoes", fn := fun _ => fun
  | [d] => { results := [.lit (.bool false)], args := [d] }
  | _ => none }
def EdgeGoesWrongFalsely : Prop := edgeGoesRow.holds Try.pinned (OpenSpec.ofChange edgeGoesWrong)

/-- 'celluloidlaw15.EdgeShifts': WHATEVER THE INPUT: true; the input reads as it did. -/
def edgeShiftsSpec : ChangeSpec := { name := "edgeShifts", fn := fun _ => fun
  | [d1, d2, d3] => { results := [.lit (.bool true)], args := [d1, d2, d3] }
  | _ => none }
def edgeShiftsRow : OpenClaim := { program := "ytlldbmodidhidaa", sum := "843d3e7182542b0a504aa72bad25a37aab7ddb0561cd183070f2391e41cc224b", func := "celluloid/celluloidlaw15.EdgeShifts", spec := "edgeShifts", unfollowed := true, recurses := true, apart := false }
def EdgeShiftsSaid : Prop := edgeShiftsRow.holds Try.pinned (OpenSpec.ofChange edgeShiftsSpec)

/-- ITS FALSE NEIGHBOUR: 'it returns false'. Refute it at one input. -/
def edgeShiftsWrong : ChangeSpec := { name := "edgeShifts", fn := fun _ => fun
  | [d1, d2, d3] => { results := [.lit (.bool false)], args := [d1, d2, d3] }
  | _ => none }
def EdgeShiftsWrongFalsely : Prop := edgeShiftsRow.holds Try.pinned (OpenSpec.ofChange edgeShiftsWrong)

/-- 'celluloidlaw15.EdgePlain': WHATEVER THE INPUT: true; the input reads as it did. -/
def edgePlainSpec : ChangeSpec := { name := "edgePlain", fn := fun _ => fun
  | [d] => { results := [.lit (.bool true)], args := [d] }
  | _ => none }
def edgePlainRow : OpenClaim := { program := "ytlldbmodidhidaa", sum := "843d3e7182542b0a504aa72bad25a37aab7ddb0561cd183070f2391e41cc224b", func := "celluloid/celluloidlaw15.EdgePlain", spec := "edgePlain", unfollowed := true, recurses := true, apart := false }
def EdgePlainSaid : Prop := edgePlainRow.holds Try.pinned (OpenSpec.ofChange edgePlainSpec)

/-- ITS FALSE NEIGHBOUR: 'it returns false'. Refute it at one input. -/
def edgePlainWrong : ChangeSpec := { name := "edgePlain", fn := fun _ => fun
  | [d] => { results := [.lit (.bool false)], args := [d] }
  | _ => none }
def EdgePlainWrongFalsely : Prop := edgePlainRow.holds Try.pinned (OpenSpec.ofChange edgePlainWrong)

/-- 'celluloidlaw15.EdgeTurns': WHATEVER THE INPUT: true; the input reads as it did. -/
def edgeTurnsSpec : ChangeSpec := { name := "edgeTurns", fn := fun _ => fun
  | [d] => { results := [.lit (.bool true)], args := [d] }
  | _ => none }
def edgeTurnsRow : OpenClaim := { program := "ytlldbmodidhidaa", sum := "843d3e7182542b0a504aa72bad25a37aab7ddb0561cd183070f2391e41cc224b", func := "celluloid/celluloidlaw15.EdgeTurns", spec := "edgeTurns", unfollowed := true, recurses := true, apart := false }
def EdgeTurnsSaid : Prop := edgeTurnsRow.holds Try.pinned (OpenSpec.ofChange edgeTurnsSpec)

/-- ITS FALSE NEIGHBOUR: 'it returns false'. Refute it at one input. -/
def edgeTurnsWrong : ChangeSpec := { name := "edgeTurns", fn := fun _ => fun
  | [d] => { results := [.lit (.bool false)], args := [d] }
  | _ => none }
def EdgeTurnsWrongFalsely : Prop := edgeTurnsRow.holds Try.pinned (OpenSpec.ofChange edgeTurnsWrong)

/- THE SECOND FORM. 'bulk': how many values and letters a reading holds, each counted each time it is reached (what is shared counts as often as it is met; a slice's spare places count too). A statement '..UptoSaid' is the law's where the arguments, and the package variables that the reading takes, are together of bulk at most 1048576: NARROWER than '..Said'. Prove '..Said' where nothing that the law and all that it calls make is longer than what came in: it says more and counts as full. Else prove '..UptoSaid'. A law counts once. -/
mutual
def uptoBulk {H : Type} : DataW H → Nat
  | .lit (.string bytes) => bytes.length + 1
  | .lit _ => 1
  | .nil => 1
  | .ptr d => uptoBulk d + 1
  | .slice elems spare => uptoBulkAll elems + uptoBulkAll spare + 1
  | .agg parts => uptoBulkAll parts + 1
  | .iface _ d => uptoBulk d + 1
  | .map entries => uptoBulkEntries entries + 1
  | .held _ => 1
def uptoBulkAll {H : Type} : List (DataW H) → Nat
  | [] => 0
  | d :: r => uptoBulk d + uptoBulkAll r
def uptoBulkEntries {H : Type} : List (Lit × DataW H) → Nat
  | [] => 0
  | x :: r => uptoBulkEntry x + uptoBulkEntries r
def uptoBulkEntry {H : Type} : Lit × DataW H → Nat
  | (.string bytes, d) => bytes.length + uptoBulk d + 1
  | (_, d) => uptoBulk d + 1
 end
def uptoSmall : (H : Type) → List (DataW H) → Bool := fun _ ds => decide (uptoBulkAll ds ≤ 1048576)
def OpenSpec.upto (s : _root_.Go.ChangeSpec) : _root_.Go.OpenSpec := { _root_.Go.OpenSpec.ofChange s with cond := some uptoSmall }

/-- 'celluloidlaw15.EdgePaths', WHERE WHAT IT READS IS OF BULK AT MOST 1048576: true; the input reads as it did. -/
def edgePathsUptoRow : OpenClaim := { program := "ytlldbmodidhidaa", sum := "843d3e7182542b0a504aa72bad25a37aab7ddb0561cd183070f2391e41cc224b", func := "celluloid/celluloidlaw15.EdgePaths", spec := "edgePaths", unfollowed := true, recurses := true, apart := false, narrowed := true }
def EdgePathsUptoSaid : Prop := edgePathsUptoRow.holds Try.pinned (OpenSpec.upto edgePathsSpec)

/-- 'celluloidlaw15.EdgeGoes', WHERE WHAT IT READS IS OF BULK AT MOST 1048576: true; the input reads as it did. -/
def edgeGoesUptoRow : OpenClaim := { program := "ytlldbmodidhidaa", sum := "843d3e7182542b0a504aa72bad25a37aab7ddb0561cd183070f2391e41cc224b", func := "celluloid/celluloidlaw15.EdgeGoes", spec := "edgeGoes", unfollowed := true, recurses := true, apart := false, narrowed := true }
def EdgeGoesUptoSaid : Prop := edgeGoesUptoRow.holds Try.pinned (OpenSpec.upto edgeGoesSpec)

/-- 'celluloidlaw15.EdgeShifts', WHERE WHAT IT READS IS OF BULK AT MOST 1048576: true; the input reads as it did. -/
def edgeShiftsUptoRow : OpenClaim := { program := "ytlldbmodidhidaa", sum := "843d3e7182542b0a504aa72bad25a37aab7ddb0561cd183070f2391e41cc224b", func := "celluloid/celluloidlaw15.EdgeShifts", spec := "edgeShifts", unfollowed := true, recurses := true, apart := false, narrowed := true }
def EdgeShiftsUptoSaid : Prop := edgeShiftsUptoRow.holds Try.pinned (OpenSpec.upto edgeShiftsSpec)

/-- 'celluloidlaw15.EdgePlain', WHERE WHAT IT READS IS OF BULK AT MOST 1048576: true; the input reads as it did. -/
def edgePlainUptoRow : OpenClaim := { program := "ytlldbmodidhidaa", sum := "843d3e7182542b0a504aa72bad25a37aab7ddb0561cd183070f2391e41cc224b", func := "celluloid/celluloidlaw15.EdgePlain", spec := "edgePlain", unfollowed := true, recurses := true, apart := false, narrowed := true }
def EdgePlainUptoSaid : Prop := edgePlainUptoRow.holds Try.pinned (OpenSpec.upto edgePlainSpec)

/-- 'celluloidlaw15.EdgeTurns', WHERE WHAT IT READS IS OF BULK AT MOST 1048576: true; the input reads as it did. -/
def edgeTurnsUptoRow : OpenClaim := { program := "ytlldbmodidhidaa", sum := "843d3e7182542b0a504aa72bad25a37aab7ddb0561cd183070f2391e41cc224b", func := "celluloid/celluloidlaw15.EdgeTurns", spec := "edgeTurns", unfollowed := true, recurses := true, apart := false, narrowed := true }
def EdgeTurnsUptoSaid : Prop := edgeTurnsUptoRow.holds Try.pinned (OpenSpec.upto edgeTurnsSpec)

end Rows
end Go.Proofs.Ytlldbmodidhidaa
