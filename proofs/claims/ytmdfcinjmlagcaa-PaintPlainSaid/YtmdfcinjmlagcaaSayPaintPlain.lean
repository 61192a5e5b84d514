/- The one pure statement of the law PaintPlain. -/
import Derived.Test.YtmdfcinjmlagcaaWf
import Derived.Test.YtmdfcinjmlagcaaPx33
namespace Go.Proofs.Ytmdfcinjmlagcaa.P
open Go.RowKit
def celluloidlaw20_PaintPlain.Pure : Prop := ∀ (x0 : S23) (x1 : S28) (x2 : S28) (x3 : S34) (l4 : List (S43)) (x5 : S37) (x6 : S37), (wfS23 x0) → (wfS28 x1) → (wfS28 x2) → (wfS34 x3) → (l4.length ≤ maxLen ∧ ∀ y ∈ l4, wfS43 y) → (l4.length * 48 ≤ 140737488351232) → (wfS37 x5) → (wfS37 x6) → ∃ k, celluloidlaw20_PaintPlain.f k (x0.f0) (x0.f1) (x0.f2) (x0.f3) (x1.f0) (x1.f1) (x1.f2) (x1.f3) (x1.f4) (x1.f5) (x2.f0) (x2.f1) (x2.f2) (x2.f3) (x2.f4) (x2.f5) (x3.f0.f0) (x3.f0.f1) (x3.f0.f2) (x3.f0.f3) (x3.f1.f0) (x3.f1.f1) (x3.f1.f2) (x3.f1.f3) l4 (x5.f0) (x5.f1) (x6.f0) (x6.f1) = some true
end Go.Proofs.Ytmdfcinjmlagcaa.P
