/-
  No cell of these rows narrows 'for every input' (looked for: loops, veiled, ifaces, maps, wideKeys, modest, calm, conditions, laid).
  DERIVED. THE GIVEN ROWS OF THIS SEAT. 6 by the template 'for every input the law returns true; each argument reads behind the call as it read before'; 0 by the template 'total and deterministic' (their statements: YtmdfcinjmlagcaaTotals.lean).
  GIVEN WITH THE SEED: the statements are not yours to turn. If you find one false, say at which input.
  Laid BY PROGRAM, IN A SANDBOX (cutbox-rows.mjs): the forced cells as the released guide's own fill.sh prints them over the translation 316190c1d9dd88c6… (all of the seat's roots in one cut). By AI agents, Wed Nov 11 2026. No macro, syntax, notation, axiom, sorry.
-/
import Derived.Test.YtmdfcinjmlagcaaChecked
import GoSem.Claim
import GoSem.ClaimJoined
import GoSem.ClaimMapViews
import Derived.JoinedTies
import Derived.KernelRfl
namespace Go.Proofs.Ytmdfcinjmlagcaa
/- THE CELL 'sum', in the pinned program and in every row, IS THE sha256 OF THE DUMP (.gsa) THAT YtmdfcinjmlagcaaProg.lean LOADS. Nothing in Lean hashes anything: it is a label: what it is worth is what the hold of that sum in a sandbox is worth. -/
noncomputable def Try.pinned : Pinned := { name := "ytmdfcinjmlagcaa", sum := "316190c1d9dd88c6dbc937f7a46b19eac3ea4793d7a2d5657fbd41de8c709cae", checked := Try.checked }
namespace Rows
def none {H : Type} : Left H := { results := [], args := [] }

/-- 'celluloidlaw20.PaintFaint': WHATEVER THE INPUT: true; the input reads as it did. -/
def paintFaintSpec : ChangeSpec := { name := "paintFaint", fn := fun _ => fun
  | [d] => { results := [.lit (.bool true)], args := [d] }
  | _ => none }
def paintFaintRow : OpenClaim := { program := "ytmdfcinjmlagcaa", sum := "316190c1d9dd88c6dbc937f7a46b19eac3ea4793d7a2d5657fbd41de8c709cae", func := "celluloid/celluloidlaw20.PaintFaint", spec := "paintFaint", unfollowed := true, recurses := true, apart := false }
def PaintFaintSaid : Prop := paintFaintRow.holds Try.pinned (OpenSpec.ofChange paintFaintSpec)

/-- ITS FALSE NEIGHBOUR: 'it returns false'. Refute it at one input. -/
def paintFaintWrong : ChangeSpec := { name := "paintFaint", fn := fun _ => fun
  | [d] => { results := [.lit (.bool false)], args := [d] }
  | _ => none }
def PaintFaintWrongFalsely : Prop := paintFaintRow.holds Try.pinned (OpenSpec.ofChange paintFaintWrong)

/-- 'celluloidlaw20.PaintOpaque': WHATEVER THE INPUT: true; the input reads as it did. -/
def paintOpaqueSpec : ChangeSpec := { name := "paintOpaque", fn := fun _ => fun
  | [d] => { results := [.lit (.bool true)], args := [d] }
  | _ => none }
def paintOpaqueRow : OpenClaim := { program := "ytmdfcinjmlagcaa", sum := "316190c1d9dd88c6dbc937f7a46b19eac3ea4793d7a2d5657fbd41de8c709cae", func := "celluloid/celluloidlaw20.PaintOpaque", spec := "paintOpaque", unfollowed := true, recurses := true, apart := false }
def PaintOpaqueSaid : Prop := paintOpaqueRow.holds Try.pinned (OpenSpec.ofChange paintOpaqueSpec)

/-- ITS FALSE NEIGHBOUR: 'it returns false'. Refute it at one input. -/
def paintOpaqueWrong : ChangeSpec := { name := "paintOpaque", fn := fun _ => fun
  | [d] => { results := [.lit (.bool false)], args := [d] }
  | _ => none }
def PaintOpaqueWrongFalsely : Prop := paintOpaqueRow.holds Try.pinned (OpenSpec.ofChange paintOpaqueWrong)

/-- 'celluloidlaw20.PaintPoints': WHATEVER THE INPUT: true; the input reads as it did. -/
def paintPointsSpec : ChangeSpec := { name := "paintPoints", fn := fun _ => fun
  | [d1, d2, d3, d4, d5] => { results := [.lit (.bool true)], args := [d1, d2, d3, d4, d5] }
  | _ => none }
def paintPointsRow : OpenClaim := { program := "ytmdfcinjmlagcaa", sum := "316190c1d9dd88c6dbc937f7a46b19eac3ea4793d7a2d5657fbd41de8c709cae", func := "celluloid/celluloidlaw20.PaintPoints", spec := "paintPoints", inPlace := ["math/bits.Sub64"], unfollowed := true, recurses := true, named := ["math/bits.divideError", "math/bits.overflowError"], apart := false }
def PaintPointsSaid : Prop := paintPointsRow.holds Try.pinned (OpenSpec.ofChange paintPointsSpec)

/-- ITS FALSE NEIGHBOUR: 'it returns false'. Refute it at one input. -/
def paintPointsWrong : ChangeSpec := { name := "paintPoints", fn := fun _ => fun
  | [d1, d2, d3, d4, d5] => { results := [.lit (.bool false)], args := [d1, d2, d3, d4, d5] }
  | _ => none }
def PaintPointsWrongFalsely : Prop := paintPointsRow.holds Try.pinned (OpenSpec.ofChange paintPointsWrong)

/-- 'celluloidlaw20.PaintLies': WHATEVER THE INPUT: true; the input reads as it did. -/
def paintLiesSpec : ChangeSpec := { name := "paintLies", fn := fun _ => fun
  | [d1, d2, d3, d4, d5, d6] => { results := [.lit (.bool true)], args := [d1, d2, d3, d4, d5, d6] }
  | _ => none }
def paintLiesRow : OpenClaim := { program := "ytmdfcinjmlagcaa", sum := "316190c1d9dd88c6dbc937f7a46b19eac3ea4793d7a2d5657fbd41de8c709cae", func := "celluloid/celluloidlaw20.PaintLies", spec := "paintLies", inPlace := ["math/bits.Sub64"], unfollowed := true, recurses := true, named := ["math/bits.divideError", "math/bits.overflowError"], apart := false }
def PaintLiesSaid : Prop := paintLiesRow.holds Try.pinned (OpenSpec.ofChange paintLiesSpec)

/-- ITS FALSE NEIGHBOUR: 'it returns false'. Refute it at one input. -/
def paintLiesWrong : ChangeSpec := { name := "paintLies", fn := fun _ => fun
  | [d1, d2, d3, d4, d5, d6] => { results := [.lit (.bool false)], args := [d1, d2, d3, d4, d5, d6] }
  | _ => none }
def PaintLiesWrongFalsely : Prop := paintLiesRow.holds Try.pinned (OpenSpec.ofChange paintLiesWrong)

/-- 'celluloidlaw20.PaintTiles': WHATEVER THE INPUT: true; the input reads as it did. -/
def paintTilesSpec : ChangeSpec := { name := "paintTiles", fn := fun _ => fun
  | [d1, d2, d3, d4, d5] => { results := [.lit (.bool true)], args := [d1, d2, d3, d4, d5] }
  | _ => none }
def paintTilesRow : OpenClaim := { program := "ytmdfcinjmlagcaa", sum := "316190c1d9dd88c6dbc937f7a46b19eac3ea4793d7a2d5657fbd41de8c709cae", func := "celluloid/celluloidlaw20.PaintTiles", spec := "paintTiles", inPlace := ["math/bits.Sub64"], unfollowed := true, recurses := true, named := ["math/bits.divideError", "math/bits.overflowError"], apart := false }
def PaintTilesSaid : Prop := paintTilesRow.holds Try.pinned (OpenSpec.ofChange paintTilesSpec)

/-- ITS FALSE NEIGHBOUR: 'it returns false'. Refute it at one input. -/
def paintTilesWrong : ChangeSpec := { name := "paintTiles", fn := fun _ => fun
  | [d1, d2, d3, d4, d5] => { results := [.lit (.bool false)], args := [d1, d2, d3, d4, d5] }
  | _ => none }
def PaintTilesWrongFalsely : Prop := paintTilesRow.holds Try.pinned (OpenSpec.ofChange paintTilesWrong)

/-- 'celluloidlaw20.PaintPlain': WHATEVER THE INPUT: true; the input reads as it did. -/
def paintPlainSpec : ChangeSpec := { name := "paintPlain", fn := fun _ => fun
  | [d1, d2, d3, d4, d5, d6, d7] => { results := [.lit (.bool true)], args := [d1, d2, d3, d4, d5, d6, d7] }
  | _ => none }
def paintPlainRow : OpenClaim := { program := "ytmdfcinjmlagcaa", sum := "316190c1d9dd88c6dbc937f7a46b19eac3ea4793d7a2d5657fbd41de8c709cae", func := "celluloid/celluloidlaw20.PaintPlain", spec := "paintPlain", inPlace := ["math/bits.Sub64"], unfollowed := true, recurses := true, named := ["math/bits.divideError", "math/bits.overflowError"], apart := false }
def PaintPlainSaid : Prop := paintPlainRow.holds Try.pinned (OpenSpec.ofChange paintPlainSpec)

/-- ITS FALSE NEIGHBOUR: 'it returns false'. Refute it at one input. -/
def paintPlainWrong : ChangeSpec := { name := "paintPlain", fn := fun _ => fun
  | [d1, d2, d3, d4, d5, d6, d7] => { results := [.lit (.bool false)], args := [d1, d2, d3, d4, d5, d6, d7] }
  | _ => none }
def PaintPlainWrongFalsely : Prop := paintPlainRow.holds Try.pinned (OpenSpec.ofChange paintPlainWrong)

/- THE SECOND FORM. 'bulk': how many values and letters a reading holds, each counted each time it is reached (what is shared counts as often as it is met; a slice's spare places count too). A statement '..UptoSaid' is the law's where the arguments, and the package variables that the reading takes, are together of bulk at most 1048576: NARROWER than '..Said'. Prove '..Said' where nothing that the law and all that it calls make is longer than what came in: it says more and counts as full. Else prove '..UptoSaid'. A law counts once. -/
mutual
def uptoBulk {H : Type} : DataW H → Nat
  | .lit (.string bytes) => bytes.length + 1
  | .lit _ => 1
  | .nil => 1
  | .ptr d => uptoBulk d + 1
  | .slice elems spare => uptoBulkAll elems + uptoBulkAll spare + 1
  | .agg parts => uptoBulkAll parts + 1
  | .iface _ d => uptoBulk d + 1
  | .map entries => uptoBulkEntries entries + 1
  | .held _ => 1
def uptoBulkAll {H : Type} : List (DataW H) → Nat
  | [] => 0
  | d :: r => uptoBulk d + uptoBulkAll r
def uptoBulkEntries {H : Type} : List (Lit × DataW H) → Nat
  | [] => 0
  | x :: r => uptoBulkEntry x + uptoBulkEntries r
def uptoBulkEntry {H : Type} : Lit × DataW H → Nat
  | (.string bytes, d) => bytes.length + uptoBulk d + 1
  | (_, d) => uptoBulk d + 1
 end
def uptoSmall : (H : Type) → List (DataW H) → Bool := fun _ ds => decide (uptoBulkAll ds ≤ 1048576)
def OpenSpec.upto (s : _root_.Go.ChangeSpec) : _root_.Go.OpenSpec := { _root_.Go.OpenSpec.ofChange s with cond := some uptoSmall }

/-- 'celluloidlaw20.PaintFaint', WHERE WHAT IT READS IS OF BULK AT MOST 1048576: true; the input reads as it did. -/
def paintFaintUptoRow : OpenClaim := { program := "ytmdfcinjmlagcaa", sum := "316190c1d9dd88c6dbc937f7a46b19eac3ea4793d7a2d5657fbd41de8c709cae", func := "celluloid/celluloidlaw20.PaintFaint", spec := "paintFaint", unfollowed := true, recurses := true, apart := false, narrowed := true }
def PaintFaintUptoSaid : Prop := paintFaintUptoRow.holds Try.pinned (OpenSpec.upto paintFaintSpec)

/-- 'celluloidlaw20.PaintOpaque', WHERE WHAT IT READS IS OF BULK AT MOST 1048576: true; the input reads as it did. -/
def paintOpaqueUptoRow : OpenClaim := { program := "ytmdfcinjmlagcaa", sum := "316190c1d9dd88c6dbc937f7a46b19eac3ea4793d7a2d5657fbd41de8c709cae", func := "celluloid/celluloidlaw20.PaintOpaque", spec := "paintOpaque", unfollowed := true, recurses := true, apart := false, narrowed := true }
def PaintOpaqueUptoSaid : Prop := paintOpaqueUptoRow.holds Try.pinned (OpenSpec.upto paintOpaqueSpec)

/-- 'celluloidlaw20.PaintPoints', WHERE WHAT IT READS IS OF BULK AT MOST 1048576: true; the input reads as it did. -/
def paintPointsUptoRow : OpenClaim := { program := "ytmdfcinjmlagcaa", sum := "316190c1d9dd88c6dbc937f7a46b19eac3ea4793d7a2d5657fbd41de8c709cae", func := "celluloid/celluloidlaw20.PaintPoints", spec := "paintPoints", inPlace := ["math/bits.Sub64"], unfollowed := true, recurses := true, named := ["math/bits.divideError", "math/bits.overflowError"], apart := false, narrowed := true }
def PaintPointsUptoSaid : Prop := paintPointsUptoRow.holds Try.pinned (OpenSpec.upto paintPointsSpec)

/-- 'celluloidlaw20.PaintLies', WHERE WHAT IT READS IS OF BULK AT MOST 1048576: true; the input reads as it did. -/
def paintLiesUptoRow : OpenClaim := { program := "ytmdfcinjmlagcaa", sum := "316190c1d9dd88c6dbc937f7a46b19eac3ea4793d7a2d5657fbd41de8c709cae", func := "celluloid/celluloidlaw20.PaintLies", spec := "paintLies", inPlace := ["math/bits.Sub64"], unfollowed := true, recurses := true, named := ["math/bits.divideError", "math/bits.overflowError"], apart := false, narrowed := true }
def PaintLiesUptoSaid : Prop := paintLiesUptoRow.holds Try.pinned (OpenSpec.upto paintLiesSpec)

/-- 'celluloidlaw20.PaintTiles', WHERE WHAT IT READS IS OF BULK AT MOST 1048576: true; the input reads as it did. -/
def paintTilesUptoRow : OpenClaim := { program := "ytmdfcinjmlagcaa", sum := "316190c1d9dd88c6dbc937f7a46b19eac3ea4793d7a2d5657fbd41de8c709cae", func := "celluloid/celluloidlaw20.PaintTiles", spec := "paintTiles", inPlace := ["math/bits.Sub64"], unfollowed := true, recurses := true, named := ["math/bits.divideError", "math/bits.overflowError"], apart := false, narrowed := true }
def PaintTilesUptoSaid : Prop := paintTilesUptoRow.holds Try.pinned (OpenSpec.upto paintTilesSpec)

/-- 'celluloidlaw20.PaintPlain', WHERE WHAT IT READS IS OF BULK AT MOST 1048576: true; the input reads as it did. -/
def paintPlainUptoRow : OpenClaim := { program := "ytmdfcinjmlagcaa", sum := "316190c1d9dd88c6dbc937f7a46b19eac3ea4793d7a2d5657fbd41de8c709cae", func := "celluloid/celluloidlaw20.PaintPlain", spec := "paintPlain", inPlace := ["math/bits.Sub64"], unfollowed := true, recurses := true, named := ["math/bits.divideError", "math/bits.overflowError"], apart := false, narrowed := true }
def PaintPlainUptoSaid : Prop := paintPlainUptoRow.holds Try.pinned (OpenSpec.upto paintPlainSpec)

end Rows
end Go.Proofs.Ytmdfcinjmlagcaa
