/- The one pure statement of the law SweepOwns. -/
import Derived.Test.YtgmegmhioiljcaaWf
import Derived.Test.YtgmegmhioiljcaaPx10
namespace Go.Proofs.Ytgmegmhioiljcaa.P
open Go.RowKit
def celluloidlaw17_SweepOwns.Pure : Prop := ∀ (l0 : List (S27)) (a1 : Int) (a2 : Int), (l0.length ≤ maxLen ∧ ∀ y ∈ l0, wfS27 y) → ((Lit.int .i64 a1).wf = true) → ((Lit.int .i64 a2).wf = true) → ∃ k, celluloidlaw17_SweepOwns.f k l0 a1 a2 = some true
end Go.Proofs.Ytgmegmhioiljcaa.P
