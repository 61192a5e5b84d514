/- The fixed answer of the stage's statements. -/
import Derived.Test.YtdphpilcokloeaaRampB
import Derived.Test.YtdphpilcokloeaaPx8
namespace Go.Proofs.Ytdphpilcokloeaa.P
open Go.RowKit Go.Proofs.YtdphpilcokloeaaW.PrintWords Go.Proofs.YtdphpilcokloeaaW.PrintLast Go.Proofs.YtdphpilcokloeaaW.PrintMore

theorem awake_eq (k : Nat) (hk : 2000 ≤ k) : celluloidlaw19_awake.f k = some true := by
  unfold celluloidlaw19_awake.f
  rw [fold_eq, Option.bind_some, if_pos (by decide), fold_eq, Option.bind_some, if_pos (by decide), fold_eq, Option.bind_some, if_pos (by decide)]
  have h := (color_eq (l := [⟨0, ⟨0, 0, 0, 0⟩⟩, ⟨255, ⟨255, 255, 255, 255⟩⟩]) (place := 128) (by simp) k hk).1 ⟨by decide, by omega, by omega⟩
  rw [if_neg (by decide)] at h
  obtain ⟨i, h1, h2⟩ := h
  have h0 : At [⟨0, ⟨0, 0, 0, 0⟩⟩, ⟨255, ⟨255, 255, 255, 255⟩⟩] 128 0 := ⟨by decide, by decide, fun j hj hjl => by
    have : j = 1 := by simp at hjl; omega
    subst this; decide⟩
  have := h1.unique h0
  subst this
  rw [h2, Option.bind_some]
  rfl
end Go.Proofs.Ytdphpilcokloeaa.P
