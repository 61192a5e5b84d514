/- The one pure statement of the law RampPoints. -/
import Derived.Test.YtdphpilcokloeaaWf
import Derived.Test.YtdphpilcokloeaaPx21
namespace Go.Proofs.Ytdphpilcokloeaa.P
open Go.RowKit
def celluloidlaw19_RampPoints.Pure : Prop := ∀ (x0 : S43) (x1 : S36), (wfS43 x0) → (wfS36 x1) → ∃ k, celluloidlaw19_RampPoints.f k (x0.f0) (x0.f1.f0) (x0.f1.f1) (x0.f1.f2) (x0.f1.f3) (x0.f2.f0) (x0.f2.f1) (x0.f2.f2) (x0.f2.f3) (x0.f2.f4) (x0.f2.f5) (x0.f3) (x0.f4) (x0.f5) (x1.f0) (x1.f1) = some true
end Go.Proofs.Ytdphpilcokloeaa.P
