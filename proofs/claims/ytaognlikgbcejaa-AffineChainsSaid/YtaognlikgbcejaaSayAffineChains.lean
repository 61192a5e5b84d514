/- The one pure statement of the law AffineChains. -/
import Derived.Test.YtaognlikgbcejaaWf
import Derived.Test.YtaognlikgbcejaaPx17
namespace Go.Proofs.Ytaognlikgbcejaa.P
open Go.RowKit
def celluloidlaw14_AffineChains.Pure : Prop := ∀ (x0 : S49) (x1 : S49) (a2 : Int) (a3 : Int), (wfS49 x0) → (wfS49 x1) → ((Lit.int .i8 a2).wf = true) → ((Lit.int .i8 a3).wf = true) → ∃ k, celluloidlaw14_AffineChains.f k (x0.f0) (x0.f1) (x0.f2) (x0.f3) (x0.f4) (x0.f5) (x1.f0) (x1.f1) (x1.f2) (x1.f3) (x1.f4) (x1.f5) a2 a3 = some true
end Go.Proofs.Ytaognlikgbcejaa.P
