/- The one pure statement of the law AffineBack. -/
import Derived.Test.YtaognlikgbcejaaWf
import Derived.Test.YtaognlikgbcejaaPx9
namespace Go.Proofs.Ytaognlikgbcejaa.P
open Go.RowKit
def celluloidlaw14_AffineBack.Pure : Prop := ∀ (x0 : S23) (x1 : S25), (wfS23 x0) → (wfS25 x1) → ∃ k, celluloidlaw14_AffineBack.f k (x0.f0) (x0.f1) (x0.f2) (x0.f3) (x0.f4) (x0.f5) (x1.f0) (x1.f1) = some true
end Go.Proofs.Ytaognlikgbcejaa.P
