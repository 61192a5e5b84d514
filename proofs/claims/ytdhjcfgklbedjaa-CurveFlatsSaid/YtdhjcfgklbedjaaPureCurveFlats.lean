/- How far any curve bends, how many pieces it has, and its points, are what the document says, or nothing. -/
import Derived.Test.YtdhjcfgklbedjaaCurveB
import Derived.Test.YtdhjcfgklbedjaaSayCurveFlats
namespace Go.Proofs.Ytdhjcfgklbedjaa.Pure
open Go.RowKit Go.Proofs.Ytdhjcfgklbedjaa.P Go.Proofs.YtdhjcfgklbedjaaW.PrintWords Go.Proofs.YtdhjcfgklbedjaaW.PrintLast Go.Proofs.YtdhjcfgklbedjaaW.PrintMore

theorem same (l : List Pt) (hl : l.length ≤ 1000) : ∀ (d i k : Nat), i + d = l.length → d + 200 ≤ k → celluloidlaw16_CurveFlats.l0 k l l (l.length : Int) (i : Int) = some true := by
  intro d
  induction d with
  | zero =>
    intro i k hi hk
    obtain ⟨k, rfl⟩ : ∃ m, k = m + 1 := ⟨k - 1, by omega⟩
    rw [celluloidlaw16_CurveFlats.l0, if_neg (by omega), awake_eq k (by omega)]; rfl
  | succ d ih =>
    intro i k hi hk
    obtain ⟨k, rfl⟩ : ∃ m, k = m + 1 := ⟨k - 1, by omega⟩
    rw [celluloidlaw16_CurveFlats.l0, if_pos (by omega), if_pos (by omega), if_pos (by omega), if_pos (by omega), if_neg (by simp), w64_id (by omega) (by omega)]
    exact ih (i + 1) k (by omega) (by omega)

theorem CurveFlats : celluloidlaw16_CurveFlats.Pure := by
  intro x0 x1 x2 _ _ _
  refine ⟨2000, ?_⟩
  unfold celluloidlaw16_CurveFlats.f
  rw [even_eq, evenR_eq _ _ 2000 (by omega), right_eq _ _ _ _ _ _ 2000 (by omega)]
  by_cases h : Ev3 x0.f0 x0.f1 x1.f0 x1.f1 x2.f0 x2.f1
  · rw [flat_eq h 2000 (by omega), flatR_eq h 2000 (by omega), bendR_eq h 2000 (by omega), piecesR_eq h 2000 (by omega), bend_eq, pieces_eq _ _ _ _ _ _ 2000 (by omega), decide_eq_true h, if_pos h, if_pos h]
    simp only [Option.bind_some, bne_self_eq_false, if_true, Bool.false_eq_true, if_false]
    rw [celluloidlaw16_CurveFlats.j0, if_neg (by simp)]
    have hl := cur_len x0.f0 x0.f1 x1.f0 x1.f1 x2.f0 x2.f1
    have hp := pcs_bd (bd x0.f0 x0.f1 x1.f0 x1.f1 x2.f0 x2.f1)
    exact same _ (by omega) _ 0 1999 (Nat.zero_add _) (by omega)
  · rw [flat_no h 2000 (by omega), decide_eq_false h, bend_eq, pieces_eq _ _ _ _ _ _ 2000 (by omega), if_neg h, if_neg h, awake_eq 2000 (by omega)]
    simp only [Option.bind_some, bne_self_eq_false, if_true, Bool.false_eq_true, if_false]
    rfl
end Go.Proofs.Ytdhjcfgklbedjaa.Pure
