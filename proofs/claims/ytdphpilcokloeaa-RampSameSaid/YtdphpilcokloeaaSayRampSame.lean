/- The one pure statement of the law RampSame. -/
import Derived.Test.YtdphpilcokloeaaWf
import Derived.Test.YtdphpilcokloeaaPx22
namespace Go.Proofs.Ytdphpilcokloeaa.P
open Go.RowKit
def celluloidlaw19_RampSame.Pure : Prop := ∀ (l0 : List Int) (x1 : S27) (a2 : Int) (a3 : Bool) (a4 : Int) (x5 : S36), (l0.length ≤ maxLen ∧ ∀ y ∈ l0, (Lit.int .u8 y).wf = true) → (wfS27 x1) → ((Lit.int .u8 a2).wf = true) → ((Lit.int .u8 a4).wf = true) → (wfS36 x5) → ∃ k, celluloidlaw19_RampSame.f k l0 (x1.f0) (x1.f1) (x1.f2) (x1.f3) a2 a3 a4 (x5.f0) (x5.f1) = some true
end Go.Proofs.Ytdphpilcokloeaa.P
