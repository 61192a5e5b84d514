/- The one pure statement of the law RampLies. -/
import Derived.Test.YtdphpilcokloeaaWf
import Derived.Test.YtdphpilcokloeaaPx13
namespace Go.Proofs.Ytdphpilcokloeaa.P
open Go.RowKit
def celluloidlaw19_RampLies.Pure : Prop := ∀ (l0 : List (S32)) (a1 : Int), (l0.length ≤ maxLen ∧ ∀ y ∈ l0, wfS32 y) → ((Lit.int .i64 a1).wf = true) → ∃ k, celluloidlaw19_RampLies.f k l0 a1 = some true
end Go.Proofs.Ytdphpilcokloeaa.P
