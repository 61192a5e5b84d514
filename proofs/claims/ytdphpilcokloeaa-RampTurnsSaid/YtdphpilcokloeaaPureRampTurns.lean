/- A place, folded, is one from 0 to 255; Reflect and Repeat come again; Pad never falls: for all numbers of 32 bits and all multiples of 8. -/
import Derived.Test.YtdphpilcokloeaaRampC
import Derived.Test.YtdphpilcokloeaaPx14
namespace Go.Proofs.Ytdphpilcokloeaa.Pure
open Go.RowKit Go.Proofs.Ytdphpilcokloeaa.P Go.Proofs.YtdphpilcokloeaaW.PrintWords Go.Proofs.YtdphpilcokloeaaW.PrintLast Go.Proofs.YtdphpilcokloeaaW.PrintMore

theorem fold0 (n : Int) : foldS n 0 = if n < 0 then 0 else if n > 255 then 255 else n := by unfold foldS; rw [if_pos rfl]
theorem fold1 (n : Int) : foldS n 1 = if n % 512 > 255 then 511 - n % 512 else n % 512 := by unfold foldS; rw [if_neg (show ¬ (1 : Int) = 0 by omega), if_pos rfl]
theorem fold2 (n : Int) : foldS n 2 = n % 256 := by unfold foldS; rw [if_neg (show ¬ (2 : Int) = 0 by omega), if_neg (show ¬ (2 : Int) = 1 by omega), if_pos rfl]

theorem fixed (n s : Int) (hs : s = 0 ∨ s = 1 ∨ s = 2) : foldS (foldS n s) s = foldS n s := by
  have := foldS_bd n s
  generalize foldS n s = p at *
  unfold foldS
  rcases hs with rfl | rfl | rfl
  · rw [if_pos rfl]; split <;> (try split) <;> omega
  · rw [if_neg (by omega), if_pos rfl]; split <;> omega
  · rw [if_neg (by omega), if_neg (by omega), if_pos rfl]; omega

theorem turn (k : Nat) (n m s : Int) (hs : s = 0 ∨ s = 1 ∨ s = 2) : celluloidlaw19_RampTurns.l0 (k + 1) n m s = celluloidlaw19_RampTurns.l0 k n m (s + 1) := by
  have hb := foldS_bd n s
  rw [celluloidlaw19_RampTurns.l0, if_pos (by omega), fold_eq, Option.bind_some, if_neg (by omega), if_neg (by omega), fold_eq, Option.bind_some, if_pos (fixed n s hs), w64_id (by omega) (by omega)]

theorem RampTurns : celluloidlaw19_RampTurns.Pure := by
  intro n m wn wm
  have hn := wf32 wn
  have hm : -128 ≤ m ∧ m ≤ 127 := by
    simp [Lit.wf, IntKind.min, IntKind.max, IntKind.bits, IntKind.signed] at wm; omega
  obtain ⟨k, hk⟩ : ∃ k : Nat, 2000 ≤ k := ⟨2000, by omega⟩
  refine ⟨k + 4, ?_⟩
  unfold celluloidlaw19_RampTurns.f
  rw [w64_id (n := n) (by omega) (by omega), w64_id (n := m) (by omega) (by omega)]
  rw [turn (k + 3) n m 0 (.inl rfl), turn (k + 2) n m (0 + 1) (.inr (.inl rfl)), turn (k + 1) n m (0 + 1 + 1) (.inr (.inr rfl))]
  simp only [celluloidlaw19_RampTurns.l0, fold_eq, Option.bind_some]
  rw [if_neg (by omega), if_pos, if_pos, if_pos, if_pos, awake_eq k hk]
  · rfl
  · rw [w64_id (n := n + 1) (by omega) (by omega), fold0, fold0]
    split <;> split <;> (try split) <;> (try split) <;> omega
  · rw [w64_id (n := 256 * m) (by omega) (by omega), w64_id (n := n + 256 * m) (by omega) (by omega), fold2, fold2]; omega
  · rw [w64_id (n := 512 * m) (by omega) (by omega), w64_id (n := n + 512 * m) (by omega) (by omega), fold1, fold1]
    have : (n + 512 * m) % 512 = n % 512 := by omega
    rw [this]
  · rw [w64_id (n := -1 - n) (by omega) (by omega), fold1, fold1]
    split <;> split <;> omega

end Go.Proofs.Ytdphpilcokloeaa.Pure
