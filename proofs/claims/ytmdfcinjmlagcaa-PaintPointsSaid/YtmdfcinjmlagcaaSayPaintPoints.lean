/- The one pure statement of the law PaintPoints. -/
import Derived.Test.YtmdfcinjmlagcaaWf
import Derived.Test.YtmdfcinjmlagcaaCxP
namespace Go.Proofs.Ytmdfcinjmlagcaa.P
open Go.RowKit
def celluloidlaw20_PaintPoints.Pure : Prop := ∀ (x0 : S31) (x1 : S28) (x2 : S34) (l3 : List (S43)) (x4 : S37), (wfS31 x0) → (wfS28 x1) → (wfS34 x2) → (l3.length ≤ maxLen ∧ ∀ y ∈ l3, wfS43 y) → (l3.length * 48 ≤ 140737488351232) → (wfS37 x4) → ∃ k, celluloidlaw20_PaintPoints.f k (x0.f0) (x0.f1.f0) (x0.f1.f1) (x0.f1.f2) (x0.f1.f3) (x0.f2.f0) (x0.f2.f1) (x0.f2.f2) (x0.f2.f3) (x0.f2.f4) (x0.f2.f5) (x0.f3) (x0.f4) (x0.f5) (x1.f0) (x1.f1) (x1.f2) (x1.f3) (x1.f4) (x1.f5) (x2.f0.f0) (x2.f0.f1) (x2.f0.f2) (x2.f0.f3) (x2.f1.f0) (x2.f1.f1) (x2.f1.f2) (x2.f1.f3) l3 (x4.f0) (x4.f1) = some true
end Go.Proofs.Ytmdfcinjmlagcaa.P
