/- The one pure statement of the law CurveNear. -/
import Derived.Test.YtdhjcfgklbedjaaWf
import Derived.Test.YtdhjcfgklbedjaaPx9
namespace Go.Proofs.Ytdhjcfgklbedjaa.P
open Go.RowKit
def celluloidlaw16_CurveNear.Pure : Prop := ∀ (x0 : S23) (x1 : S23) (x2 : S23), (wfS23 x0) → (wfS23 x1) → (wfS23 x2) → ∃ k, celluloidlaw16_CurveNear.f k (x0.f0) (x0.f1) (x1.f0) (x1.f1) (x2.f0) (x2.f1) = some true
end Go.Proofs.Ytdhjcfgklbedjaa.P
