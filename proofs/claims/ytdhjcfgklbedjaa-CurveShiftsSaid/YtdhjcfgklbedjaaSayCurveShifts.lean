/- The one pure statement of the law CurveShifts. -/
import Derived.Test.YtdhjcfgklbedjaaWf
import Derived.Test.YtdhjcfgklbedjaaPx11
namespace Go.Proofs.Ytdhjcfgklbedjaa.P
open Go.RowKit
def celluloidlaw16_CurveShifts.Pure : Prop := ∀ (x0 : S23) (x1 : S23) (x2 : S23) (a3 : Int) (a4 : Int), (wfS23 x0) → (wfS23 x1) → (wfS23 x2) → ((Lit.int .i16 a3).wf = true) → ((Lit.int .i16 a4).wf = true) → ∃ k, celluloidlaw16_CurveShifts.f k (x0.f0) (x0.f1) (x1.f0) (x1.f1) (x2.f0) (x2.f1) a3 a4 = some true
end Go.Proofs.Ytdhjcfgklbedjaa.P
