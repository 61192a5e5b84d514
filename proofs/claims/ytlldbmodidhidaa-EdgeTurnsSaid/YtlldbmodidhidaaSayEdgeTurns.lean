/- The one pure statement of the law EdgeTurns. -/
import Derived.Test.YtlldbmodidhidaaWf
import Derived.Test.YtlldbmodidhidaaPx29
namespace Go.Proofs.Ytlldbmodidhidaa.P
open Go.RowKit
def celluloidlaw15_EdgeTurns.Pure : Prop := ∀ (x0 : S51), (wfS51 x0) → ∃ k, celluloidlaw15_EdgeTurns.f k (x0.f0.f0) (x0.f0.f1) (x0.f1.f0) (x0.f1.f1) (x0.f2.f0) (x0.f2.f1) (x0.f3) (x0.f4) (x0.f5) (x0.f6) = some true
end Go.Proofs.Ytlldbmodidhidaa.P
