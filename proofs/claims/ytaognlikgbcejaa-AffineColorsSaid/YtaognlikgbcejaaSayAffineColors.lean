/- The one pure statement of the law AffineColors. -/
import Derived.Test.YtaognlikgbcejaaWf
import Derived.Test.YtaognlikgbcejaaPx15
namespace Go.Proofs.Ytaognlikgbcejaa.P
open Go.RowKit
def celluloidlaw14_AffineColors.Pure : Prop := ∀ (x0 : S41) (x1 : S43), (wfS41 x0) → (wfS43 x1) → ∃ k, celluloidlaw14_AffineColors.f k (x0.f0.f0) (x0.f0.f1) (x0.f0.f2) (x0.f0.f3) (x0.f1.f0) (x0.f1.f1) (x0.f1.f2) (x0.f1.f3) (x1.f0) (x1.f1) (x1.f2) (x1.f3) = some true
end Go.Proofs.Ytaognlikgbcejaa.P
