/- The one pure statement of the law SweepShifts. -/
import Derived.Test.YtgmegmhioiljcaaWf
import Derived.Test.YtgmegmhioiljcaaPx15
namespace Go.Proofs.Ytgmegmhioiljcaa.P
open Go.RowKit
def celluloidlaw17_SweepShifts.Pure : Prop := ∀ (l0 : List (S27)) (a1 : Int) (a2 : Int) (a3 : Int) (a4 : Int) (a5 : Int), (l0.length ≤ maxLen ∧ ∀ y ∈ l0, wfS27 y) → ((Lit.int .i64 a1).wf = true) → ((Lit.int .i64 a2).wf = true) → ((Lit.int .i64 a3).wf = true) → ((Lit.int .i16 a4).wf = true) → ((Lit.int .i16 a5).wf = true) → ∃ k, celluloidlaw17_SweepShifts.f k l0 a1 a2 a3 a4 a5 = some true
end Go.Proofs.Ytgmegmhioiljcaa.P
