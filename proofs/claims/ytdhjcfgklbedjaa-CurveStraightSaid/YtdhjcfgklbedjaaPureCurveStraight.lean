/- A curve whose control point is the middle is one piece; one that is turned about has as many pieces. -/
import Derived.Test.YtdhjcfgklbedjaaCurveB
import Derived.Test.YtdhjcfgklbedjaaSayCurveStraight
namespace Go.Proofs.Ytdhjcfgklbedjaa.Pure
open Go.RowKit Go.Proofs.Ytdhjcfgklbedjaa.P Go.Proofs.YtdhjcfgklbedjaaW.PrintWords Go.Proofs.YtdhjcfgklbedjaaW.PrintLast Go.Proofs.YtdhjcfgklbedjaaW.PrintMore

theorem bd_turn (a0 a1 b0 b1 c0 c1 : Int) : bd c0 c1 b0 b1 a0 a1 = bd a0 a1 b0 b1 c0 c1 := by
  unfold bd
  rw [show c0 - 2 * b0 + a0 = a0 - 2 * b0 + c0 by omega, show c1 - 2 * b1 + a1 = a1 - 2 * b1 + c1 by omega]

theorem CurveStraight : celluloidlaw16_CurveStraight.Pure := by
  intro x0 x1 x2 _ _ _
  refine ⟨2000, ?_⟩
  unfold celluloidlaw16_CurveStraight.f
  generalize x0.f0 = a0
  generalize x0.f1 = a1
  generalize x1.f0 = c0
  generalize x1.f1 = c1
  generalize x2.f0 = b0
  generalize x2.f1 = b1
  rw [right_eq _ _ _ _ _ _ 2000 (by omega), Option.bind_some]
  by_cases h : Ev3 a0 a1 b0 b1 c0 c1
  · have h2 : Ev3 c0 c1 b0 b1 a0 a1 := ⟨h.2.2, h.2.1, h.1⟩
    rw [decide_eq_true h, if_pos rfl, pieces_eq _ _ _ _ _ _ 2000 (by omega), pieces_eq _ _ _ _ _ _ 2000 (by omega), bend_eq, bend_eq, if_pos h, if_pos h2, if_pos h, if_pos h2, bd_turn a0 a1 b0 b1 c0 c1]
    rw [Option.bind_some, Option.bind_some, if_pos rfl, Option.bind_some, Option.bind_some]
    rw [bne_self_eq_false, celluloidlaw16_CurveStraight.j0, if_neg (by simp), evenR_eq _ _ 1999 (by omega), Option.bind_some]
    have h' := h
    unfold Ev3 EvP at h'
    have m0 : wrap64 (Int.tdiv (wrap64 (a0 + c0)) 2) = (a0 + c0) / 2 := by
      rw [w64_id (n := a0 + c0) (by omega) (by omega)]
      obtain ⟨s, hs⟩ : ∃ s, a0 + c0 = 2 * s := ⟨(a0 + c0) / 2, by omega⟩
      rw [hs, Int.mul_tdiv_cancel_left _ (by omega), w64_id (by omega) (by omega)]; omega
    have m1 : wrap64 (Int.tdiv (wrap64 (a1 + c1)) 2) = (a1 + c1) / 2 := by
      rw [w64_id (n := a1 + c1) (by omega) (by omega)]
      obtain ⟨s, hs⟩ : ∃ s, a1 + c1 = 2 * s := ⟨(a1 + c1) / 2, by omega⟩
      rw [hs, Int.mul_tdiv_cancel_left _ (by omega), w64_id (by omega) (by omega)]; omega
    rw [m0, m1]
    by_cases hm : EvP ((a0 + c0) / 2) ((a1 + c1) / 2)
    · have h3 : Ev3 a0 a1 ((a0 + c0) / 2) ((a1 + c1) / 2) c0 c1 := ⟨h.1, hm, h.2.2⟩
      have hb : bd a0 a1 ((a0 + c0) / 2) ((a1 + c1) / 2) c0 c1 = 0 := by
        unfold bd
        rw [show a0 - 2 * ((a0 + c0) / 2) + c0 = 0 by omega, show a1 - 2 * ((a1 + c1) / 2) + c1 = 0 by omega]; rfl
      have hc : cur a0 a1 ((a0 + c0) / 2) ((a1 + c1) / 2) c0 c1 = [⟨c0, c1⟩] := by
        unfold cur
        rw [hb, show pcs 0 = 1 by decide]
        show [(⟨pt _ _ _ 1 1, pt _ _ _ 1 1⟩ : Pt)] = _
        rw [pt_end (by omega) (by omega) (by omega), pt_end (by omega) (by omega) (by omega)]
      rw [decide_eq_true hm, if_pos rfl, flat_eq h3 1999 (by omega), hc, Option.bind_some, if_pos (by simp), if_pos (by simp)]
      have r0 : rd_T23 [(⟨c0, c1⟩ : Pt)] 0 = ⟨c0, c1⟩ := rfl
      rw [r0, if_pos (by simp), bend_eq, if_pos h3, hb, Option.bind_some, if_pos rfl, awake_eq 1999 (by omega)]; rfl
    · rw [decide_eq_false hm, if_neg (by simp), awake_eq 1999 (by omega)]; rfl
  · rw [decide_eq_false h, if_neg (by simp), awake_eq 2000 (by omega)]; rfl
end Go.Proofs.Ytdhjcfgklbedjaa.Pure
