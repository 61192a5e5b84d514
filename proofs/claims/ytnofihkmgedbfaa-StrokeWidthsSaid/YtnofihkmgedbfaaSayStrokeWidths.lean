/- The one pure statement of the law StrokeWidths. -/
import Derived.Test.YtnofihkmgedbfaaWf
import Derived.Test.YtnofihkmgedbfaaPx9
namespace Go.Proofs.Ytnofihkmgedbfaa.P
open Go.RowKit
def celluloidlaw18_StrokeWidths.Pure : Prop := ∀ (a0 : Int) (x1 : S43), ((Lit.int .i64 a0).wf = true) → (wfS43 x1) → ∃ k, celluloidlaw18_StrokeWidths.f k a0 (x1.f0) (x1.f1) (x1.f2) (x1.f3) (x1.f4) (x1.f5) = some true
end Go.Proofs.Ytnofihkmgedbfaa.P
