/- An edge, gone the other way, is it with its ends, and its sides, changed; twice it is itself. (prune.py) -/
import Derived.Test.YtlldbmodidhidaaPx17
import Derived.Test.YtlldbmodidhidaaPx29
import Derived.KernelRfl
import Derived.Test.YtlldbmodidhidaaSayEdgeTurns
namespace Go.Proofs.Ytlldbmodidhidaa.Pure
open Go.RowKit Go.Proofs.Ytlldbmodidhidaa.P
theorem awake_eq : celluloidlaw15_awake.f 100 = some true := by kernel_rfl
theorem EdgeTurns : celluloidlaw15_EdgeTurns.Pure := by
  intro x _
  refine ⟨100, ?_⟩
  unfold celluloidlaw15_EdgeTurns.f edge_Turned.f
  rw [Option.bind_some, if_pos (by simp), Option.bind_some, if_pos (by simp), awake_eq]
  rfl
end Go.Proofs.Ytlldbmodidhidaa.Pure
