/- The one pure statement of the law SweepTurns. -/
import Derived.Test.YtgmegmhioiljcaaWf
import Derived.Test.YtgmegmhioiljcaaPx11
namespace Go.Proofs.Ytgmegmhioiljcaa.P
open Go.RowKit
def celluloidlaw17_SweepTurns.Pure : Prop := ∀ (l0 : List (S27)) (a1 : Int) (a2 : Int) (a3 : Int), (l0.length ≤ maxLen ∧ ∀ y ∈ l0, wfS27 y) → ((Lit.int .u64 a1).wf = true) → ((Lit.int .i64 a2).wf = true) → ((Lit.int .i64 a3).wf = true) → ∃ k, celluloidlaw17_SweepTurns.f k l0 a1 a2 a3 = some true
end Go.Proofs.Ytgmegmhioiljcaa.P
