/- The one pure statement of the law StrokeOwns. -/
import Derived.Test.YtnofihkmgedbfaaWf
import Derived.Test.YtnofihkmgedbfaaPx8
namespace Go.Proofs.Ytnofihkmgedbfaa.P
open Go.RowKit
def celluloidlaw18_StrokeOwns.Pure : Prop := ∀ (l0 : List (S25)) (a1 : Int) (a2 : Int), (l0.length ≤ maxLen ∧ ∀ y ∈ l0, wfS25 y) → ((Lit.int .i64 a1).wf = true) → ((Lit.int .i64 a2).wf = true) → ∃ k, celluloidlaw18_StrokeOwns.f k l0 a1 a2 = some true
end Go.Proofs.Ytnofihkmgedbfaa.P
