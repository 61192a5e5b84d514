/- The one pure statement of the law AffineComposes. -/
import Derived.Test.YtaognlikgbcejaaWf
import Derived.Test.YtaognlikgbcejaaPx21
namespace Go.Proofs.Ytaognlikgbcejaa.P
open Go.RowKit
def celluloidlaw14_AffineComposes.Pure : Prop := ∀ (x0 : S23) (x1 : S23) (x2 : S41) (x3 : S41), (wfS23 x0) → (wfS23 x1) → (wfS41 x2) → (wfS41 x3) → ∃ k, celluloidlaw14_AffineComposes.f k (x0.f0) (x0.f1) (x0.f2) (x0.f3) (x0.f4) (x0.f5) (x1.f0) (x1.f1) (x1.f2) (x1.f3) (x1.f4) (x1.f5) (x2.f0.f0) (x2.f0.f1) (x2.f0.f2) (x2.f0.f3) (x2.f1.f0) (x2.f1.f1) (x2.f1.f2) (x2.f1.f3) (x3.f0.f0) (x3.f0.f1) (x3.f0.f2) (x3.f0.f3) (x3.f1.f0) (x3.f1.f1) (x3.f1.f2) (x3.f1.f3) = some true
end Go.Proofs.Ytaognlikgbcejaa.P
