/- The one pure statement of the law PaintTiles. -/
import Derived.Test.YtmdfcinjmlagcaaWf
import Derived.Test.YtmdfcinjmlagcaaPx34
namespace Go.Proofs.Ytmdfcinjmlagcaa.P
open Go.RowKit
def celluloidlaw20_PaintTiles.Pure : Prop := ∀ (x0 : S43) (a1 : Int) (a2 : Int) (a3 : Int) (a4 : Int), (wfS43 x0) → ((Lit.int .u8 a1).wf = true) → ((Lit.int .u8 a2).wf = true) → ((Lit.int .i8 a3).wf = true) → ((Lit.int .i8 a4).wf = true) → ∃ k, celluloidlaw20_PaintTiles.f k (x0.f0) (x0.f1) (x0.f2) (x0.f3) a1 a2 a3 a4 = some true
end Go.Proofs.Ytmdfcinjmlagcaa.P
