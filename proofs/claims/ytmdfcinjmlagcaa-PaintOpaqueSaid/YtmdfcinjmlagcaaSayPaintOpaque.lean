/- The one pure statement of the law PaintOpaque. -/
import Derived.Test.YtmdfcinjmlagcaaWf
import Derived.Test.YtmdfcinjmlagcaaPx5
namespace Go.Proofs.Ytmdfcinjmlagcaa.P
open Go.RowKit
def celluloidlaw20_PaintOpaque.Pure : Prop := ∀ (x0 : S23), (wfS23 x0) → ∃ k, celluloidlaw20_PaintOpaque.f k (x0.f0) (x0.f1) (x0.f2) (x0.f3) = some true
end Go.Proofs.Ytmdfcinjmlagcaa.P
