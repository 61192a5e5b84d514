/-
  No cell of these rows narrows 'for every input' (looked for: loops, veiled, ifaces, maps, wideKeys, modest, calm, conditions, laid).
  DERIVED. THE GIVEN ROWS OF THIS SEAT. 7 by the template 'for every input the law returns true; each argument reads behind the call as it read before'; 0 by the template 'total and deterministic' (their statements: YtaognlikgbcejaaTotals.lean).
  GIVEN WITH THE SEED: the statements are not yours to turn. If you find one false, say at which input.
  Laid BY PROGRAM, IN A SANDBOX (cutbox-rows.mjs): the forced cells as the released guide's own fill.sh prints them over the translation 7551be06fc3596ff… (all of the seat's roots in one cut). By AI agents, Wed Nov 11 2026. No macro, syntax, notation, axiom, sorry.
-/
import Derived.Test.YtaognlikgbcejaaChecked
import GoSem.Claim
import GoSem.ClaimJoined
import GoSem.ClaimMapViews
import Derived.JoinedTies
import Derived.KernelRfl
namespace Go.Proofs.Ytaognlikgbcejaa
/- THE CELL 'sum', in the pinned program and in every row, IS THE sha256 OF THE DUMP (.gsa) THAT YtaognlikgbcejaaProg.lean LOADS. Nothing in Lean hashes anything: it is a label: what it is worth is what the hold of that sum in a sandbox is worth. -/
noncomputable def Try.pinned : Pinned := { name := "ytaognlikgbcejaa", sum := "7551be06fc3596ff76cd9a0b3033eff6a1791ebb59f591a692f311df65135054", checked := Try.checked }
namespace Rows
def none {H : Type} : Left H := { results := [], args := [] }

/-- 'celluloidlaw14.AffinePoints': WHATEVER THE INPUT: true; the input reads as it did. -/
def affinePointsSpec : ChangeSpec := { name := "affinePoints", fn := fun _ => fun
  | [d1, d2] => { results := [.lit (.bool true)], args := [d1, d2] }
  | _ => none }
def affinePointsRow : OpenClaim := { program := "ytaognlikgbcejaa", sum := "7551be06fc3596ff76cd9a0b3033eff6a1791ebb59f591a692f311df65135054", func := "celluloid/celluloidlaw14.AffinePoints", spec := "affinePoints", inPlace := ["math/bits.Sub64"], named := ["math/bits.divideError", "math/bits.overflowError"], apart := false }
def AffinePointsSaid : Prop := affinePointsRow.holds Try.pinned (OpenSpec.ofChange affinePointsSpec)

/-- ITS FALSE NEIGHBOUR: 'it returns false'. Refute it at one input. -/
def affinePointsWrong : ChangeSpec := { name := "affinePoints", fn := fun _ => fun
  | [d1, d2] => { results := [.lit (.bool false)], args := [d1, d2] }
  | _ => none }
def AffinePointsWrongFalsely : Prop := affinePointsRow.holds Try.pinned (OpenSpec.ofChange affinePointsWrong)

/-- 'celluloidlaw14.AffineBack': WHATEVER THE INPUT: true; the input reads as it did. -/
def affineBackSpec : ChangeSpec := { name := "affineBack", fn := fun _ => fun
  | [d1, d2] => { results := [.lit (.bool true)], args := [d1, d2] }
  | _ => none }
def affineBackRow : OpenClaim := { program := "ytaognlikgbcejaa", sum := "7551be06fc3596ff76cd9a0b3033eff6a1791ebb59f591a692f311df65135054", func := "celluloid/celluloidlaw14.AffineBack", spec := "affineBack", inPlace := ["math/bits.Sub64"], named := ["math/bits.divideError", "math/bits.overflowError"], apart := false }
def AffineBackSaid : Prop := affineBackRow.holds Try.pinned (OpenSpec.ofChange affineBackSpec)

/-- ITS FALSE NEIGHBOUR: 'it returns false'. Refute it at one input. -/
def affineBackWrong : ChangeSpec := { name := "affineBack", fn := fun _ => fun
  | [d1, d2] => { results := [.lit (.bool false)], args := [d1, d2] }
  | _ => none }
def AffineBackWrongFalsely : Prop := affineBackRow.holds Try.pinned (OpenSpec.ofChange affineBackWrong)

/-- 'celluloidlaw14.AffineNear': WHATEVER THE INPUT: true; the input reads as it did. -/
def affineNearSpec : ChangeSpec := { name := "affineNear", fn := fun _ => fun
  | [d1, d2, d3] => { results := [.lit (.bool true)], args := [d1, d2, d3] }
  | _ => none }
def affineNearRow : OpenClaim := { program := "ytaognlikgbcejaa", sum := "7551be06fc3596ff76cd9a0b3033eff6a1791ebb59f591a692f311df65135054", func := "celluloid/celluloidlaw14.AffineNear", spec := "affineNear", inPlace := ["math/bits.Sub64"], named := ["math/bits.divideError", "math/bits.overflowError"], apart := false }
def AffineNearSaid : Prop := affineNearRow.holds Try.pinned (OpenSpec.ofChange affineNearSpec)

/-- ITS FALSE NEIGHBOUR: 'it returns false'. Refute it at one input. -/
def affineNearWrong : ChangeSpec := { name := "affineNear", fn := fun _ => fun
  | [d1, d2, d3] => { results := [.lit (.bool false)], args := [d1, d2, d3] }
  | _ => none }
def AffineNearWrongFalsely : Prop := affineNearRow.holds Try.pinned (OpenSpec.ofChange affineNearWrong)

/-- 'celluloidlaw14.AffineColors': WHATEVER THE INPUT: true; the input reads as it did. -/
def affineColorsSpec : ChangeSpec := { name := "affineColors", fn := fun _ => fun
  | [d1, d2] => { results := [.lit (.bool true)], args := [d1, d2] }
  | _ => none }
def affineColorsRow : OpenClaim := { program := "ytaognlikgbcejaa", sum := "7551be06fc3596ff76cd9a0b3033eff6a1791ebb59f591a692f311df65135054", func := "celluloid/celluloidlaw14.AffineColors", spec := "affineColors", inPlace := ["math/bits.Sub64"], named := ["math/bits.divideError", "math/bits.overflowError"], apart := false }
def AffineColorsSaid : Prop := affineColorsRow.holds Try.pinned (OpenSpec.ofChange affineColorsSpec)

/-- ITS FALSE NEIGHBOUR: 'it returns false'. Refute it at one input. -/
def affineColorsWrong : ChangeSpec := { name := "affineColors", fn := fun _ => fun
  | [d1, d2] => { results := [.lit (.bool false)], args := [d1, d2] }
  | _ => none }
def AffineColorsWrongFalsely : Prop := affineColorsRow.holds Try.pinned (OpenSpec.ofChange affineColorsWrong)

/-- 'celluloidlaw14.AffineChains': WHATEVER THE INPUT: true; the input reads as it did. -/
def affineChainsSpec : ChangeSpec := { name := "affineChains", fn := fun _ => fun
  | [d1, d2, d3, d4] => { results := [.lit (.bool true)], args := [d1, d2, d3, d4] }
  | _ => none }
def affineChainsRow : OpenClaim := { program := "ytaognlikgbcejaa", sum := "7551be06fc3596ff76cd9a0b3033eff6a1791ebb59f591a692f311df65135054", func := "celluloid/celluloidlaw14.AffineChains", spec := "affineChains", inPlace := ["math/bits.Sub64"], named := ["math/bits.divideError", "math/bits.overflowError"], apart := false }
def AffineChainsSaid : Prop := affineChainsRow.holds Try.pinned (OpenSpec.ofChange affineChainsSpec)

/-- ITS FALSE NEIGHBOUR: 'it returns false'. Refute it at one input. -/
def affineChainsWrong : ChangeSpec := { name := "affineChains", fn := fun _ => fun
  | [d1, d2, d3, d4] => { results := [.lit (.bool false)], args := [d1, d2, d3, d4] }
  | _ => none }
def AffineChainsWrongFalsely : Prop := affineChainsRow.holds Try.pinned (OpenSpec.ofChange affineChainsWrong)

/-- 'celluloidlaw14.AffineComposes': WHATEVER THE INPUT: true; the input reads as it did. -/
def affineComposesSpec : ChangeSpec := { name := "affineComposes", fn := fun _ => fun
  | [d1, d2, d3, d4] => { results := [.lit (.bool true)], args := [d1, d2, d3, d4] }
  | _ => none }
def affineComposesRow : OpenClaim := { program := "ytaognlikgbcejaa", sum := "7551be06fc3596ff76cd9a0b3033eff6a1791ebb59f591a692f311df65135054", func := "celluloid/celluloidlaw14.AffineComposes", spec := "affineComposes", inPlace := ["math/bits.Sub64"], named := ["math/bits.divideError", "math/bits.overflowError"], apart := false }
def AffineComposesSaid : Prop := affineComposesRow.holds Try.pinned (OpenSpec.ofChange affineComposesSpec)

/-- ITS FALSE NEIGHBOUR: 'it returns false'. Refute it at one input. -/
def affineComposesWrong : ChangeSpec := { name := "affineComposes", fn := fun _ => fun
  | [d1, d2, d3, d4] => { results := [.lit (.bool false)], args := [d1, d2, d3, d4] }
  | _ => none }
def AffineComposesWrongFalsely : Prop := affineComposesRow.holds Try.pinned (OpenSpec.ofChange affineComposesWrong)

/-- 'celluloidlaw14.AffineSame': WHATEVER THE INPUT: true; the input reads as it did. -/
def affineSameSpec : ChangeSpec := { name := "affineSame", fn := fun _ => fun
  | [d1, d2, d3, d4] => { results := [.lit (.bool true)], args := [d1, d2, d3, d4] }
  | _ => none }
def affineSameRow : OpenClaim := { program := "ytaognlikgbcejaa", sum := "7551be06fc3596ff76cd9a0b3033eff6a1791ebb59f591a692f311df65135054", func := "celluloid/celluloidlaw14.AffineSame", spec := "affineSame", inPlace := ["math/bits.Sub64"], named := ["math/bits.divideError", "math/bits.overflowError"], apart := false }
def AffineSameSaid : Prop := affineSameRow.holds Try.pinned (OpenSpec.ofChange affineSameSpec)

/-- ITS FALSE NEIGHBOUR: 'it returns false'. Refute it at one input. -/
def affineSameWrong : ChangeSpec := { name := "affineSame", fn := fun _ => fun
  | [d1, d2, d3, d4] => { results := [.lit (.bool false)], args := [d1, d2, d3, d4] }
  | _ => none }
def AffineSameWrongFalsely : Prop := affineSameRow.holds Try.pinned (OpenSpec.ofChange affineSameWrong)

/- THE SECOND FORM. 'bulk': how many values and letters a reading holds, each counted each time it is reached (what is shared counts as often as it is met; a slice's spare places count too). A statement '..UptoSaid' is the law's where the arguments, and the package variables that the reading takes, are together of bulk at most 1048576: NARROWER than '..Said'. Prove '..Said' where nothing that the law and all that it calls make is longer than what came in: it says more and counts as full. Else prove '..UptoSaid'. A law counts once. -/
mutual
def uptoBulk {H : Type} : DataW H → Nat
  | .lit (.string bytes) => bytes.length + 1
  | .lit _ => 1
  | .nil => 1
  | .ptr d => uptoBulk d + 1
  | .slice elems spare => uptoBulkAll elems + uptoBulkAll spare + 1
  | .agg parts => uptoBulkAll parts + 1
  | .iface _ d => uptoBulk d + 1
  | .map entries => uptoBulkEntries entries + 1
  | .held _ => 1
def uptoBulkAll {H : Type} : List (DataW H) → Nat
  | [] => 0
  | d :: r => uptoBulk d + uptoBulkAll r
def uptoBulkEntries {H : Type} : List (Lit × DataW H) → Nat
  | [] => 0
  | x :: r => uptoBulkEntry x + uptoBulkEntries r
def uptoBulkEntry {H : Type} : Lit × DataW H → Nat
  | (.string bytes, d) => bytes.length + uptoBulk d + 1
  | (_, d) => uptoBulk d + 1
 end
def uptoSmall : (H : Type) → List (DataW H) → Bool := fun _ ds => decide (uptoBulkAll ds ≤ 1048576)
def OpenSpec.upto (s : _root_.Go.ChangeSpec) : _root_.Go.OpenSpec := { _root_.Go.OpenSpec.ofChange s with cond := some uptoSmall }

/-- 'celluloidlaw14.AffinePoints', WHERE WHAT IT READS IS OF BULK AT MOST 1048576: true; the input reads as it did. -/
def affinePointsUptoRow : OpenClaim := { program := "ytaognlikgbcejaa", sum := "7551be06fc3596ff76cd9a0b3033eff6a1791ebb59f591a692f311df65135054", func := "celluloid/celluloidlaw14.AffinePoints", spec := "affinePoints", inPlace := ["math/bits.Sub64"], named := ["math/bits.divideError", "math/bits.overflowError"], apart := false, narrowed := true }
def AffinePointsUptoSaid : Prop := affinePointsUptoRow.holds Try.pinned (OpenSpec.upto affinePointsSpec)

/-- 'celluloidlaw14.AffineBack', WHERE WHAT IT READS IS OF BULK AT MOST 1048576: true; the input reads as it did. -/
def affineBackUptoRow : OpenClaim := { program := "ytaognlikgbcejaa", sum := "7551be06fc3596ff76cd9a0b3033eff6a1791ebb59f591a692f311df65135054", func := "celluloid/celluloidlaw14.AffineBack", spec := "affineBack", inPlace := ["math/bits.Sub64"], named := ["math/bits.divideError", "math/bits.overflowError"], apart := false, narrowed := true }
def AffineBackUptoSaid : Prop := affineBackUptoRow.holds Try.pinned (OpenSpec.upto affineBackSpec)

/-- 'celluloidlaw14.AffineNear', WHERE WHAT IT READS IS OF BULK AT MOST 1048576: true; the input reads as it did. -/
def affineNearUptoRow : OpenClaim := { program := "ytaognlikgbcejaa", sum := "7551be06fc3596ff76cd9a0b3033eff6a1791ebb59f591a692f311df65135054", func := "celluloid/celluloidlaw14.AffineNear", spec := "affineNear", inPlace := ["math/bits.Sub64"], named := ["math/bits.divideError", "math/bits.overflowError"], apart := false, narrowed := true }
def AffineNearUptoSaid : Prop := affineNearUptoRow.holds Try.pinned (OpenSpec.upto affineNearSpec)

/-- 'celluloidlaw14.AffineColors', WHERE WHAT IT READS IS OF BULK AT MOST 1048576: true; the input reads as it did. -/
def affineColorsUptoRow : OpenClaim := { program := "ytaognlikgbcejaa", sum := "7551be06fc3596ff76cd9a0b3033eff6a1791ebb59f591a692f311df65135054", func := "celluloid/celluloidlaw14.AffineColors", spec := "affineColors", inPlace := ["math/bits.Sub64"], named := ["math/bits.divideError", "math/bits.overflowError"], apart := false, narrowed := true }
def AffineColorsUptoSaid : Prop := affineColorsUptoRow.holds Try.pinned (OpenSpec.upto affineColorsSpec)

/-- 'celluloidlaw14.AffineChains', WHERE WHAT IT READS IS OF BULK AT MOST 1048576: true; the input reads as it did. -/
def affineChainsUptoRow : OpenClaim := { program := "ytaognlikgbcejaa", sum := "7551be06fc3596ff76cd9a0b3033eff6a1791ebb59f591a692f311df65135054", func := "celluloid/celluloidlaw14.AffineChains", spec := "affineChains", inPlace := ["math/bits.Sub64"], named := ["math/bits.divideError", "math/bits.overflowError"], apart := false, narrowed := true }
def AffineChainsUptoSaid : Prop := affineChainsUptoRow.holds Try.pinned (OpenSpec.upto affineChainsSpec)

/-- 'celluloidlaw14.AffineComposes', WHERE WHAT IT READS IS OF BULK AT MOST 1048576: true; the input reads as it did. -/
def affineComposesUptoRow : OpenClaim := { program := "ytaognlikgbcejaa", sum := "7551be06fc3596ff76cd9a0b3033eff6a1791ebb59f591a692f311df65135054", func := "celluloid/celluloidlaw14.AffineComposes", spec := "affineComposes", inPlace := ["math/bits.Sub64"], named := ["math/bits.divideError", "math/bits.overflowError"], apart := false, narrowed := true }
def AffineComposesUptoSaid : Prop := affineComposesUptoRow.holds Try.pinned (OpenSpec.upto affineComposesSpec)

/-- 'celluloidlaw14.AffineSame', WHERE WHAT IT READS IS OF BULK AT MOST 1048576: true; the input reads as it did. -/
def affineSameUptoRow : OpenClaim := { program := "ytaognlikgbcejaa", sum := "7551be06fc3596ff76cd9a0b3033eff6a1791ebb59f591a692f311df65135054", func := "celluloid/celluloidlaw14.AffineSame", spec := "affineSame", inPlace := ["math/bits.Sub64"], named := ["math/bits.divideError", "math/bits.overflowError"], apart := false, narrowed := true }
def AffineSameUptoSaid : Prop := affineSameUptoRow.holds Try.pinned (OpenSpec.upto affineSameSpec)

end Rows
end Go.Proofs.Ytaognlikgbcejaa
