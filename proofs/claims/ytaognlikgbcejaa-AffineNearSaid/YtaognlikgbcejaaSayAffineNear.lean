/- The one pure statement of the law AffineNear. -/
import Derived.Test.YtaognlikgbcejaaWf
import Derived.Test.YtaognlikgbcejaaPx10
namespace Go.Proofs.Ytaognlikgbcejaa.P
open Go.RowKit
def celluloidlaw14_AffineNear.Pure : Prop := ∀ (a0 : Int) (a1 : Int) (x2 : S25), ((Lit.int .i32 a0).wf = true) → ((Lit.int .i32 a1).wf = true) → (wfS25 x2) → ∃ k, celluloidlaw14_AffineNear.f k a0 a1 (x2.f0) (x2.f1) = some true
end Go.Proofs.Ytaognlikgbcejaa.P
