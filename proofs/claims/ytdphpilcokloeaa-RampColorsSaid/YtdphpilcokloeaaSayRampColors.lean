/- The one pure statement of the law RampColors. -/
import Derived.Test.YtdphpilcokloeaaWf
import Derived.Test.YtdphpilcokloeaaPx12
namespace Go.Proofs.Ytdphpilcokloeaa.P
open Go.RowKit
def celluloidlaw19_RampColors.Pure : Prop := ∀ (l0 : List (S32)) (a1 : Int), (l0.length ≤ maxLen ∧ ∀ y ∈ l0, wfS32 y) → ((Lit.int .i64 a1).wf = true) → ∃ k, celluloidlaw19_RampColors.f k l0 a1 = some true
end Go.Proofs.Ytdphpilcokloeaa.P
