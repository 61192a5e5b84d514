/- The one pure statement of the law SweepCuts. -/
import Derived.Test.YtgmegmhioiljcaaWf
import Derived.Test.YtgmegmhioiljcaaPx12
namespace Go.Proofs.Ytgmegmhioiljcaa.P
open Go.RowKit
def celluloidlaw17_SweepCuts.Pure : Prop := ∀ (x0 : S27) (a1 : Int) (a2 : Int) (a3 : Int), (wfS27 x0) → ((Lit.int .i64 a1).wf = true) → ((Lit.int .i64 a2).wf = true) → ((Lit.int .i64 a3).wf = true) → ∃ k, celluloidlaw17_SweepCuts.f k (x0.f0.f0) (x0.f0.f1) (x0.f1.f0) (x0.f1.f1) (x0.f2) (x0.f3) a1 a2 a3 = some true
end Go.Proofs.Ytgmegmhioiljcaa.P
