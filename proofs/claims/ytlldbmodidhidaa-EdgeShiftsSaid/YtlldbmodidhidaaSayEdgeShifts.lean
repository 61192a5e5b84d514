/- The one pure statement of the law EdgeShifts. -/
import Derived.Test.YtlldbmodidhidaaWf
import Derived.Test.YtlldbmodidhidaaPx33
namespace Go.Proofs.Ytlldbmodidhidaa.P
open Go.RowKit
def celluloidlaw15_EdgeShifts.Pure : Prop := ∀ (x0 : S28) (a1 : Int) (a2 : Int), (wfS28 x0) → ((Lit.int .i16 a1).wf = true) → ((Lit.int .i16 a2).wf = true) → ∃ k, celluloidlaw15_EdgeShifts.f k (x0.f0) (x0.f1.f0) (x0.f1.f1) (x0.f1.f2) (x0.f1.f3) (x0.f2) (x0.f3) (x0.f4) a1 a2 = some true
end Go.Proofs.Ytlldbmodidhidaa.P
