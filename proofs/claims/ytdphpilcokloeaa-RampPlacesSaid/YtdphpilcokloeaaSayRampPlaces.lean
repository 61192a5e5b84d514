/- The one pure statement of the law RampPlaces. -/
import Derived.Test.YtdphpilcokloeaaWf
import Derived.Test.YtdphpilcokloeaaPx14
namespace Go.Proofs.Ytdphpilcokloeaa.P
open Go.RowKit
def celluloidlaw19_RampPlaces.Pure : Prop := ∀ (x0 : S36), (wfS36 x0) → ∃ k, celluloidlaw19_RampPlaces.f k (x0.f0) (x0.f1) = some true
end Go.Proofs.Ytdphpilcokloeaa.P
