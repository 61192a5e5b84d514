/- By a matrix that turns and stretches nothing what Back tells goes to at most a twip's part ahead of where it came from. -/
import Derived.Test.YtaognlikgbcejaaAffA
import Derived.Test.YtaognlikgbcejaaSayAffineNear
namespace Go.Proofs.Ytaognlikgbcejaa.Pure
open Go.RowKit Go.Proofs.Ytaognlikgbcejaa.P Go.Proofs.YtaognlikgbcejaaW.PrintWords Go.Proofs.YtaognlikgbcejaaW.PrintLast Go.Proofs.YtaognlikgbcejaaW.PrintMore

theorem tmod_bd (a : Int) : -1048576 < Int.tmod a 1048576 ∧ Int.tmod a 1048576 < 1048576 := by
  by_cases h : 0 ≤ a
  · rw [Int.tmod_eq_emod_of_nonneg h]; omega
  · have e : Int.tmod a 1048576 = -((-a) % 1048576) := by
      have : a = -(-a) := by omega
      rw [this, Int.neg_tmod, Int.tmod_eq_emod_of_nonneg (by omega), Int.neg_neg]
    rw [e]; omega

/-- One part: where a unit comes from, and where that goes. -/
theorem part (X p : Int) :
    fl (65536 * (p * 20480 - X * 65536)) 4294967296 = (p * 20480 - X * 65536) / 65536 := by
  unfold fl; rw [if_pos (by omega), show (4294967296 : Int) = 65536 * 65536 by decide]
  exact Int.mul_ediv_mul_of_pos _ _ (by omega)

theorem AffineNear : celluloidlaw14_AffineNear.Pure := by
  intro x y p _ _ _
  obtain ⟨k, hk⟩ : ∃ k : Nat, 4294967296 < k := ⟨_, Nat.lt_succ_self _⟩
  refine ⟨k, ?_⟩
  unfold celluloidlaw14_AffineNear.f
  have hX := tmod_bd (wrap64 x)
  have hY := tmod_bd (wrap64 y)
  generalize Int.tmod (wrap64 x) 1048576 = X at *
  generalize Int.tmod (wrap64 y) 1048576 = Y at *
  generalize p.f0 = P
  generalize p.f1 = Q
  have hm : Mat 65536 0 0 65536 X Y := by unfold Mat; omega
  have hd : det 65536 0 0 65536 = 4294967296 := by decide
  rw [far_eq _ _ _ (by omega), Option.bind_some]
  by_cases hw : Wi P Q 16777216
  · have hw' := hw
    unfold Wi at hw'
    rw [decide_eq_false (fun h => h hw), if_neg (by simp), back_eq _ _ _ _ _ _ _ _ k (by omega), Option.bind_some]
    have eb : bkS 65536 0 0 65536 X Y P Q = ((P * 20480 - X * 65536) / 65536, (Q * 20480 - Y * 65536) / 65536, true) := by
      unfold bkS
      rw [if_pos ⟨hm, hw, by rw [hd]; decide⟩, hd]
      unfold bk1
      rw [Int.zero_mul, Int.zero_mul, Int.sub_zero, Int.sub_zero, part X P, part Y Q]
    rw [eb, apply_eq _ _ _ _ _ _ _ _ k (by omega), Option.bind_some]
    have ea : apS 65536 0 0 65536 X Y ((P * 20480 - X * 65536) / 65536) ((Q * 20480 - Y * 65536) / 65536) = (65536 * ((P * 20480 - X * 65536) / 65536) + X * 65536, 65536 * ((Q * 20480 - Y * 65536) / 65536) + Y * 65536, 0) := by
      unfold apS
      rw [if_pos ⟨hm, by unfold Wi; omega⟩]
      unfold go1
      rw [Int.zero_mul, Int.zero_mul, Int.add_zero, Int.zero_add]
    rw [ea]
    dsimp only
    rw [if_pos rfl, if_pos rfl, w64_id (n := P * 20480) (by omega) (by omega), w64_id (n := Q * 20480) (by omega) (by omega), w64_id (n := P * 20480 - (65536 * ((P * 20480 - X * 65536) / 65536) + X * 65536)) (by omega) (by omega), w64_id (n := Q * 20480 - (65536 * ((Q * 20480 - Y * 65536) / 65536) + Y * 65536)) (by omega) (by omega), if_pos (by omega), if_pos (by omega), if_pos (by omega), if_pos (by omega), awake_eq k hk]
    rfl
  · rw [decide_eq_true hw, if_pos rfl, back_eq _ _ _ _ _ _ _ _ k (by omega), Option.bind_some]
    have eb : bkS 65536 0 0 65536 X Y P Q = (0, 0, false) := by
      unfold bkS
      rw [if_neg (fun h => hw h.2.1)]
    rw [eb]
    dsimp only
    rw [if_neg (by simp), awake_eq k hk]
    rfl
end Go.Proofs.Ytaognlikgbcejaa.Pure
