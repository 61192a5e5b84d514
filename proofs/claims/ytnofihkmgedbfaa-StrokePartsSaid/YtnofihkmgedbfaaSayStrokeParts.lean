/- The one pure statement of the law StrokeParts. -/
import Derived.Test.YtnofihkmgedbfaaWf
import Derived.Test.YtnofihkmgedbfaaPx11
namespace Go.Proofs.Ytnofihkmgedbfaa.P
open Go.RowKit
def celluloidlaw18_StrokeParts.Pure : Prop := ∀ (x0 : S25) (a1 : Int) (a2 : Int), (wfS25 x0) → ((Lit.int .i64 a1).wf = true) → ((Lit.int .i64 a2).wf = true) → ∃ k, celluloidlaw18_StrokeParts.f k (x0.f0.f0) (x0.f0.f1) (x0.f1.f0) (x0.f1.f1) (x0.f2) (x0.f3) a1 a2 = some true
end Go.Proofs.Ytnofihkmgedbfaa.P
