/- The document's root of layer 1 is the greatest number whose square is not above. -/
import Derived.Test.YtaognlikgbcejaaFixD
import Derived.Test.YtaognlikgbcejaaPx10
namespace Go.Proofs.Ytaognlikgbcejaa.P
open Go.RowKit Go.Proofs.YtaognlikgbcejaaW.PrintWords Go.Proofs.YtaognlikgbcejaaW.PrintLast Go.Proofs.YtaognlikgbcejaaW.PrintMore

theorem refroot_l0 (n : Int) (hn : n ≤ 9223372036854775807) : ∀ (t : Nat), t ≤ 32 → ∀ (r k : Nat), (0 ≤ n → (r : Int) * r ≤ n) → (n < 0 → r = 0) → n < ((r : Int) + (2 ^ t : Nat)) * (r + (2 ^ t : Nat)) → r ≤ 3037000499 → t + 1 ≤ k →
    celluloidref01_Root.l0 k n (r : Int) (((2 ^ t : Nat) : Int) / 2) = some (isq n.toNat : Int) := by
  intro t
  induction t with
  | zero =>
    intro _ r k h1 h2 h3 h4 hk
    obtain ⟨k, rfl⟩ : ∃ m, k = m + 1 := ⟨k - 1, by omega⟩
    simp only [celluloidref01_Root.l0]
    rw [if_neg (by simp)]
    by_cases hneg : n < 0
    · rw [h2 hneg, show n.toNat = 0 by omega]; rfl
    · obtain ⟨m, rfl⟩ := Int.eq_ofNat_of_zero_le (show 0 ≤ n by omega)
      have g1 := h1 (by omega)
      rw [Int.toNat_natCast, isq_unique (n := m) (r := r) (by rw [← Int.natCast_mul] at g1; omega)]
      rw [Nat.pow_zero] at h3
      have : ((r : Int) + ((1 : Nat) : Int)) * (r + ((1 : Nat) : Int)) = (((r + 1) * (r + 1) : Nat) : Int) := by simp
      rw [this] at h3
      omega
  | succ t ih =>
    intro ht r k h1 h2 h3 h4 hk
    obtain ⟨k, rfl⟩ : ∃ m, k = m + 1 := ⟨k - 1, by omega⟩
    have hp : 2 ^ t ≤ 2147483648 := by
      have : 2 ^ t ≤ 2 ^ 31 := Nat.pow_le_pow_right (by omega) (by omega)
      exact this
    have hp0 := Nat.two_pow_pos t
    have e : ((2 ^ (t + 1) : Nat) : Int) / 2 = ((2 ^ t : Nat) : Int) := by rw [Nat.pow_succ]; omega
    have e2 : ((2 ^ (t + 1) : Nat) : Int) = 2 * ((2 ^ t : Nat) : Int) := by rw [Nat.pow_succ]; omega
    rw [e]
    rw [e2] at h3
    simp only [celluloidref01_Root.l0]
    have ih' := ih (by omega)
    obtain ⟨p, hpp⟩ : ∃ p, p = 2 ^ t := ⟨_, rfl⟩
    rw [← hpp] at hp hp0 h3 ih' ⊢
    rw [if_pos (by omega), w64_id (n := (r : Int) + p) (by omega) (by omega), Int.tdiv_eq_ediv_of_nonneg (by omega), w64_id (n := (p : Int) / 2) (by omega) (by omega)]
    have hsq : 3037000500 ≤ (r : Int) + p → n < ((r : Int) + p) * (r + p) := by
      intro hge
      have : (3037000500 : Int) * 3037000500 ≤ ((r : Int) + p) * (r + p) := Int.mul_le_mul hge hge (by omega) (by omega)
      omega
    by_cases g1 : (r : Int) + p ≤ 3037000499
    · rw [if_pos g1]
      have hb : ((r : Int) + p) * (r + p) ≤ 3037000499 * 3037000499 := Int.mul_le_mul g1 g1 (by omega) (by omega)
      have hb0 : 0 ≤ ((r : Int) + p) * (r + p) := Int.mul_nonneg (by omega) (by omega)
      rw [w64_id (n := ((r : Int) + p) * (r + p)) (by omega) (by omega)]
      by_cases g2 : ((r : Int) + p) * (r + p) ≤ n
      · rw [if_pos g2]
        have hc : ((r + p : Nat) : Int) = (r : Int) + p := by omega
        have hc2 : (r : Int) + p + p = r + 2 * p := by omega
        have := ih' (r + p) k (fun _ => by rw [hc]; exact g2) (fun h => by omega) (by rw [hc, hc2]; exact h3) (by omega) (by omega)
        rw [hc] at this
        exact this
      · rw [if_neg g2]
        exact ih' r k h1 h2 (by omega) h4 (by omega)
    · rw [if_neg g1]
      exact ih' r k h1 h2 (hsq (by omega)) h4 (by omega)

theorem ref_root (n : Int) (hn : n ≤ 9223372036854775807) (k : Nat) (hk : 40 ≤ k) : celluloidref01_Root.f k n = some (isq n.toNat : Int) := by
  unfold celluloidref01_Root.f
  have := refroot_l0 n hn 32 (Nat.le_refl _) 0 k (fun h => by simpa using h) (fun _ => rfl) (by
    have : (((0 : Nat) : Int) + ((2 ^ 32 : Nat) : Int)) * (((0 : Nat) : Int) + ((2 ^ 32 : Nat) : Int)) = 18446744073709551616 := by decide
    rw [this]; omega) (by omega) (by omega)
  exact this
end Go.Proofs.Ytaognlikgbcejaa.P
