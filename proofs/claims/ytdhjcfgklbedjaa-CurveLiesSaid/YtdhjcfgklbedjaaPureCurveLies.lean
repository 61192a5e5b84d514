/- The last point is the curve's end; all points are even, and lie where the parts of its points lie. -/
import Derived.Test.YtdhjcfgklbedjaaCurveB
import Derived.Test.YtdhjcfgklbedjaaSayCurveLies
namespace Go.Proofs.Ytdhjcfgklbedjaa.Pure
open Go.RowKit Go.Proofs.Ytdhjcfgklbedjaa.P Go.Proofs.YtdhjcfgklbedjaaW.PrintWords Go.Proofs.YtdhjcfgklbedjaaW.PrintLast Go.Proofs.YtdhjcfgklbedjaaW.PrintMore

theorem lo3 {a b c i n : Int} (ha : a % 2 = 0) (hb : b % 2 = 0) (hc : c % 2 = 0) (hi : 0 ≤ i) (hn : i ≤ n) (h1 : 1 ≤ n) (h2 : n ≤ 64) : mn (mn a b) c ≤ pt a b c i n := by
  obtain ⟨lo, h, l0, l1, l2⟩ : ∃ lo, mn (mn a b) c = 2 * lo ∧ 2 * lo ≤ a ∧ 2 * lo ≤ b ∧ 2 * lo ≤ c := by
    refine ⟨mn (mn a b) c / 2, ?_⟩
    unfold mn; repeat' split
    all_goals omega
  rw [h]
  exact pt_lo l0 l1 l2 hi hn h1 h2
theorem hi3 {a b c i n : Int} (ha : a % 2 = 0) (hb : b % 2 = 0) (hc : c % 2 = 0) (hi : 0 ≤ i) (hn : i ≤ n) (h1 : 1 ≤ n) (h2 : n ≤ 64) : pt a b c i n ≤ mx (mx a b) c := by
  obtain ⟨lo, h, l0, l1, l2⟩ : ∃ lo, mx (mx a b) c = 2 * lo ∧ a ≤ 2 * lo ∧ b ≤ 2 * lo ∧ c ≤ 2 * lo := by
    refine ⟨mx (mx a b) c / 2, ?_⟩
    unfold mx; repeat' split
    all_goals omega
  rw [h]
  exact pt_hi l0 l1 l2 hi hn h1 h2
theorem pt_even (a b c i n : Int) : pt a b c i n % 2 = 0 := by unfold pt; omega

theorem CurveLies : celluloidlaw16_CurveLies.Pure := by
  intro x0 x1 x2 _ _ _
  refine ⟨2000, ?_⟩
  unfold celluloidlaw16_CurveLies.f
  rw [right_eq _ _ _ _ _ _ 2000 (by omega)]
  generalize x0.f0 = a0
  generalize x0.f1 = a1
  generalize x1.f0 = b0
  generalize x1.f1 = b1
  generalize x2.f0 = c0
  generalize x2.f1 = c1
  by_cases h : Ev3 a0 a1 b0 b1 c0 c1
  · have hl := cur_len a0 a1 b0 b1 c0 c1
    have hp := pcs_bd (bd a0 a1 b0 b1 c0 c1)
    have hat := cur_at a0 a1 b0 b1 c0 c1
    rw [flat_eq h 2000 (by omega), Option.bind_some, Option.bind_some, decide_eq_true h]
    generalize cur a0 a1 b0 b1 c0 c1 = l at *
    generalize pcs (bd a0 a1 b0 b1 c0 c1) = n at *
    have h' := h
    unfold Ev3 EvP at h'
    have last : rd_T23 l (wrap64 ((l.length : Int) - 1)) = ⟨c0, c1⟩ := by
      rw [w64_id (by omega) (by omega), show (l.length : Int) - 1 = ((l.length - 1 : Nat) : Int) by omega, hat _ (by omega), show (1 : Int) + ((l.length - 1 : Nat) : Int) = n by omega, pt_end hp.1 (by omega) (by omega), pt_end hp.1 (by omega) (by omega)]
    rw [if_pos rfl, if_neg (by omega), if_neg (by omega), last, w64_id (by omega) (by omega), if_pos (by omega), if_pos (by omega), celluloidlaw16_CurveLies.j0, if_neg (by simp)]
    have go : ∀ (d i k : Nat), i + d = l.length → 2 * d + 200 ≤ k → celluloidlaw16_CurveLies.l0 k l (l.length : Int) (i : Int) a0 a1 b0 b1 c0 c1 = some true := by
      intro d
      induction d with
      | zero =>
        intro i k hi hk
        obtain ⟨k, rfl⟩ : ∃ m, k = m + 1 := ⟨k - 1, by omega⟩
        rw [celluloidlaw16_CurveLies.l0, if_neg (by omega), awake_eq k (by omega)]; rfl
      | succ d ih =>
        intro i k hi hk
        obtain ⟨k, rfl⟩ : ∃ m, k = m + 2 := ⟨k - 2, by omega⟩
        have lx := lo3 (a := a0) (b := b0) (c := c0) (i := 1 + i) (n := n) (by omega) (by omega) (by omega) (by omega) (by omega) (by omega) (by omega)
        have hx := hi3 (a := a0) (b := b0) (c := c0) (i := 1 + i) (n := n) (by omega) (by omega) (by omega) (by omega) (by omega) (by omega) (by omega)
        have ly := lo3 (a := a1) (b := b1) (c := c1) (i := 1 + i) (n := n) (by omega) (by omega) (by omega) (by omega) (by omega) (by omega) (by omega)
        have hy := hi3 (a := a1) (b := b1) (c := c1) (i := 1 + i) (n := n) (by omega) (by omega) (by omega) (by omega) (by omega) (by omega) (by omega)
        have bx0 : -16777216 ≤ mn (mn a0 b0) c0 ∧ mx (mx a0 b0) c0 ≤ 16777216 := by unfold mn mx; constructor <;> repeat' split
                                                                                    all_goals omega
        have by0 : -16777216 ≤ mn (mn a1 b1) c1 ∧ mx (mx a1 b1) c1 ≤ 16777216 := by unfold mn mx; constructor <;> repeat' split
                                                                                    all_goals omega
        have ex := pt_even a0 b0 c0 (1 + i) n
        have ey := pt_even a1 b1 c1 (1 + i) n
        rw [celluloidlaw16_CurveLies.l0, if_pos (by omega), if_pos (by omega), if_pos (by omega), hat i (by omega), even_eq, Option.bind_some]
        dsimp only
        rw [decide_eq_true (show EvP _ _ from ⟨ex, ey, by omega, by omega, by omega, by omega⟩), if_pos rfl, if_neg (by omega), if_neg (by omega), if_neg (by omega), celluloidlaw16_CurveLies.j2, if_neg (by simp; omega), w64_id (by omega) (by omega)]
        exact ih (i + 1) k (by omega) (by omega)
    exact go _ 0 1999 (Nat.zero_add _) (by omega)
  · rw [flat_no h 2000 (by omega), decide_eq_false h, awake_eq 2000 (by omega)]
    rfl
end Go.Proofs.Ytdhjcfgklbedjaa.Pure
