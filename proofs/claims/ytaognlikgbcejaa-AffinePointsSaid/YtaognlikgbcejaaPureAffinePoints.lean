/- Where any point goes by any matrix, and on the grid, is what the document says, or refused. -/
import Derived.Test.YtaognlikgbcejaaAffA
import Derived.Test.YtaognlikgbcejaaSayAffinePoints
namespace Go.Proofs.Ytaognlikgbcejaa.Pure
open Go.RowKit Go.Proofs.Ytaognlikgbcejaa.P Go.Proofs.YtaognlikgbcejaaW.PrintWords Go.Proofs.YtaognlikgbcejaaW.PrintLast Go.Proofs.YtaognlikgbcejaaW.PrintMore

theorem AffinePoints : celluloidlaw14_AffinePoints.Pure := by
  intro m p _ _
  obtain ⟨k, hk⟩ : ∃ k : Nat, 4294967296 < k := ⟨_, Nat.lt_succ_self _⟩
  refine ⟨k, ?_⟩
  unfold celluloidlaw14_AffinePoints.f
  rw [apply_eq _ _ _ _ _ _ _ _ k (by omega), grid_eq _ _ _ _ _ _ _ _ k (by omega), applyR_eq, gridR_eq, awake_eq k hk]
  generalize apS m.f0 m.f1 m.f2 m.f3 m.f4 m.f5 p.f0 p.f1 = u
  generalize grS m.f0 m.f1 m.f2 m.f3 m.f4 m.f5 p.f0 p.f1 = v
  simp
end Go.Proofs.Ytaognlikgbcejaa.Pure
