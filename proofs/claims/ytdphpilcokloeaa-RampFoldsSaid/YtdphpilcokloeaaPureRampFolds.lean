/- The place of any number, by any spread, is what the document says: for all whole numbers of 64 bits. -/
import Derived.Test.YtdphpilcokloeaaRampC
import Derived.Test.YtdphpilcokloeaaPx8
namespace Go.Proofs.Ytdphpilcokloeaa.Pure
open Go.RowKit Go.Proofs.Ytdphpilcokloeaa.P Go.Proofs.YtdphpilcokloeaaW.PrintWords Go.Proofs.YtdphpilcokloeaaW.PrintLast Go.Proofs.YtdphpilcokloeaaW.PrintMore

theorem RampFolds : celluloidlaw19_RampFolds.Pure := by
  intro n s _ _
  obtain ⟨k, hk⟩ : ∃ k : Nat, 2000 ≤ k := ⟨2000, by omega⟩
  refine ⟨k, ?_⟩
  unfold celluloidlaw19_RampFolds.f
  rw [fold_eq, Option.bind_some, fold_ref, Option.bind_some, if_pos rfl, awake_eq k hk]; rfl

end Go.Proofs.Ytdphpilcokloeaa.Pure
