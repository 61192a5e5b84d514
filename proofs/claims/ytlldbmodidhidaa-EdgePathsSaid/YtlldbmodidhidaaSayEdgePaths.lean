/- The one pure statement of the law EdgePaths. -/
import Derived.Test.YtlldbmodidhidaaWf
import Derived.Test.YtlldbmodidhidaaCxP
namespace Go.Proofs.Ytlldbmodidhidaa.P
open Go.RowKit
def celluloidlaw15_EdgePaths.Pure : Prop := ∀ (x0 : S28), (wfS28 x0) → ∃ k, celluloidlaw15_EdgePaths.f k (x0.f0) (x0.f1.f0) (x0.f1.f1) (x0.f1.f2) (x0.f1.f3) (x0.f2) (x0.f3) (x0.f4) = some true
end Go.Proofs.Ytlldbmodidhidaa.P
