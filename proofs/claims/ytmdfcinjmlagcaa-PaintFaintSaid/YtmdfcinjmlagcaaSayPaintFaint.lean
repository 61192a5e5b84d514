/- The one pure statement of the law PaintFaint. -/
import Derived.Test.YtmdfcinjmlagcaaWf
import Derived.Test.YtmdfcinjmlagcaaPx41
namespace Go.Proofs.Ytmdfcinjmlagcaa.P
open Go.RowKit
def celluloidlaw20_PaintFaint.Pure : Prop := ∀ (x0 : S23), (wfS23 x0) → ∃ k, celluloidlaw20_PaintFaint.f k (x0.f0) (x0.f1) (x0.f2) (x0.f3) = some true
end Go.Proofs.Ytmdfcinjmlagcaa.P
