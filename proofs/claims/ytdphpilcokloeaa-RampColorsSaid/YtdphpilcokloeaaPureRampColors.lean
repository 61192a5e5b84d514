/- The colour at any place of any stops is what the document says: for all stops, up to 20 of them, and all places. -/
import Derived.Test.YtdphpilcokloeaaRampAwake
import Derived.Test.YtdphpilcokloeaaSayRampColors
namespace Go.Proofs.Ytdphpilcokloeaa.Pure
open Go.RowKit Go.Proofs.Ytdphpilcokloeaa.P Go.Proofs.YtdphpilcokloeaaW.PrintWords Go.Proofs.YtdphpilcokloeaaW.PrintLast Go.Proofs.YtdphpilcokloeaaW.PrintMore

theorem RampColors : celluloidlaw19_RampColors.Pure := by
  intro l place hl hp
  obtain ⟨k, hk⟩ : ∃ k : Nat, 3000 ≤ k := ⟨3000, by omega⟩
  refine ⟨k + 1, ?_⟩
  unfold celluloidlaw19_RampColors.f
  by_cases h20 : (l.length : Int) > 20
  · rw [if_pos h20, awake_eq (k + 1) (by omega)]; rfl
  · rw [if_neg h20]
    have none_ : ∀ b : Bool, b = true → celluloidlaw19_RampColors.j0 (k + 1) l place b 0 0 0 0 = some true := by
      intro b hb
      simp only [celluloidlaw19_RampColors.j0]
      rw [if_pos hb, if_pos (by decide), awake_eq k (by omega)]; rfl
    by_cases h : rightS l = true ∧ 0 ≤ place ∧ place ≤ 255
    · obtain ⟨c, c1, c2⟩ := colors_agree h.1 (by omega) h.2.1 h.2.2 (k + 1) k (by omega) (by omega)
      rw [c1, Option.bind_some, right19_eq (by omega) (k + 1) (by omega), Option.bind_some, if_pos h.1, if_neg (by omega), decide_eq_false (by omega)]
      simp only [celluloidlaw19_RampColors.j0]
      rw [if_neg (by simp), c2, Option.bind_some, if_pos (by simp), awake_eq k (by omega)]; rfl
    · rw [(color_eq (by omega) (k + 1) (by omega)).2 h, Option.bind_some, right19_eq (by omega) (k + 1) (by omega), Option.bind_some]
      by_cases hr : rightS l = true
      · rw [if_pos hr]
        by_cases hn : place < 0
        · rw [if_pos hn]; exact none_ _ rfl
        · rw [if_neg hn]; exact none_ _ (decide_eq_true (by
            rcases Int.lt_or_le 255 place with h1 | h1
            · exact h1
            · exact absurd ⟨hr, by omega, h1⟩ h))
      · rw [if_neg hr]; exact none_ _ rfl

end Go.Proofs.Ytdphpilcokloeaa.Pure
