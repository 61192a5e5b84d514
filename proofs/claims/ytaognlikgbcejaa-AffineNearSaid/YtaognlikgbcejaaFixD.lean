/- What the program's root comes to: the greatest number whose square is not above. -/
import Derived.Test.YtaognlikgbcejaaFixA
import Derived.Test.YtaognlikgbcejaaPx9
namespace Go.Proofs.Ytaognlikgbcejaa.P
open Go.RowKit Go.Proofs.YtaognlikgbcejaaW.PrintWords Go.Proofs.YtaognlikgbcejaaW.PrintLast Go.Proofs.YtaognlikgbcejaaW.PrintMore

/-- The root of a natural number. -/
def isq : Nat → Nat
  | 0 => 0
  | n + 1 => if (isq n + 1) * (isq n + 1) ≤ n + 1 then isq n + 1 else isq n

theorem isq_spec : ∀ n, isq n * isq n ≤ n ∧ n < (isq n + 1) * (isq n + 1) := by
  intro n
  induction n with
  | zero => simp [isq]
  | succ n ih =>
    simp only [isq]
    split
    · rename_i h
      refine ⟨h, ?_⟩
      have e : (isq n + 1 + 1) * (isq n + 1 + 1) = (isq n + 1) * (isq n + 1) + 2 * (isq n + 1) + 1 := by
        rw [Nat.add_mul, Nat.mul_add]; omega
      rw [e]; omega
    · rename_i h
      exact ⟨by omega, by omega⟩

theorem sq_lt {a b : Nat} (h : a * a < b * b) : a < b := by
  rcases Nat.lt_or_ge a b with h1 | h1
  · exact h1
  · have := Nat.mul_le_mul h1 h1; omega

theorem isq_unique {n r : Nat} (h1 : r * r ≤ n) (h2 : n < (r + 1) * (r + 1)) : isq n = r := by
  obtain ⟨a, b⟩ := isq_spec n
  have := sq_lt (Nat.lt_of_le_of_lt a h2)
  have := sq_lt (Nat.lt_of_le_of_lt h1 b)
  omega

theorem isq_le {n r : Nat} (h : n < (r + 1) * (r + 1)) : isq n ≤ r := by
  have := sq_lt (Nat.lt_of_le_of_lt (isq_spec n).1 h); omega
theorem le_isq {n r : Nat} (h : r * r ≤ n) : r ≤ isq n := by
  have := sq_lt (Nat.lt_of_le_of_lt h (isq_spec n).2); omega

/-- One step: not below the root. -/
theorem step_ge {n r : Nat} (hr : 0 < r) : isq n ≤ (r + n / r) / 2 := by
  obtain ⟨a, _⟩ := isq_spec n
  generalize isq n = s at *
  by_cases h : r ≤ 2 * s
  · obtain ⟨t, ht⟩ : ∃ t, 2 * s = r + t := ⟨2 * s - r, by omega⟩
    have : t ≤ n / r := by
      rw [Nat.le_div_iff_mul_le hr]
      refine Nat.le_trans ?_ a
      -- t * r ≤ s * s
      have h4 : 4 * (t * r) ≤ 4 * (s * s) := by
        have e : 4 * (s * s) = (r + t) * (r + t) := by
          rw [← ht, Nat.mul_mul_mul_comm]
        rw [e, Nat.add_mul, Nat.mul_add, Nat.mul_add, Nat.mul_comm r t]
        have : 2 * (t * r) ≤ r * r + t * t := by
          rcases Nat.le_total t r with hle | hle
          · obtain ⟨d, rfl⟩ : ∃ d, r = t + d := ⟨r - t, by omega⟩
            have := Nat.mul_comm d t; simp only [Nat.mul_add, Nat.add_mul]; omega
          · obtain ⟨d, rfl⟩ : ∃ d, t = r + d := ⟨t - r, by omega⟩
            have := Nat.mul_comm d r; simp only [Nat.mul_add, Nat.add_mul]; omega
        omega
      omega
    omega
  · generalize n / r = q; omega

/-- One step: below where it was, above the root. -/
theorem step_lt {n r : Nat} (h : isq n < r) : (r + n / r) / 2 < r := by
  have b := (isq_spec n).2
  have h1 : n < r * r := Nat.lt_of_lt_of_le b (Nat.mul_le_mul h h)
  have : n / r < r := by rw [Nat.div_lt_iff_lt_mul (by omega)]; exact h1
  omega

theorem tdiv_nat (a b : Nat) : Int.tdiv (a : Int) (b : Int) = ((a / b : Nat) : Int) := by
  rw [Int.tdiv_eq_ediv_of_nonneg (by omega), Int.natCast_ediv]

theorem root_l0 {n : Nat} (hn : 0 < n) (hn1 : n < 9223372036854775808) : ∀ (d r k : Nat), isq n ≤ r → r ≤ isq n + d → r ≤ 4294967296 → d < k → fix_Root.l0 k n r = some (isq n : Int) := by
  have hs : 1 ≤ isq n := le_isq (by omega)
  intro d
  induction d with
  | zero =>
    intro r k h1 h2 h3 hk
    obtain ⟨k, rfl⟩ : ∃ m, k = m + 1 := ⟨k - 1, by omega⟩
    have e : r = isq n := by omega
    have hst := step_ge (n := n) (r := r) (by omega)
    have hdb : n / r ≤ n := Nat.div_le_self _ _
    have hq : n / r ≤ r + 2 := by
      have b := (isq_spec n).2
      rw [← e] at b
      have : n / r < r + 3 := by
        rw [Nat.div_lt_iff_lt_mul (by omega)]
        rw [Nat.add_mul, Nat.mul_add] at b
        rw [Nat.add_mul]; omega
      omega
    simp only [fix_Root.l0]
    rw [if_neg (by omega), tdiv_nat]
    generalize n / r = q at *
    rw [w64_id (n := (q : Int)) (by omega) (by omega), w64_id (n := (r : Int) + q) (by omega) (by omega), Int.tdiv_eq_ediv_of_nonneg (by omega), w64_id (by omega) (by omega), if_pos (by omega), e]
  | succ d ih =>
    intro r k h1 h2 h3 hk
    by_cases he : r ≤ isq n + d
    · exact ih r k h1 he h3 (by omega)
    · obtain ⟨k, rfl⟩ : ∃ m, k = m + 1 := ⟨k - 1, by omega⟩
      have hst := step_ge (n := n) (r := r) (by omega)
      have hlt := step_lt (n := n) (r := r) (by omega)
      have hdb : n / r < r := by
        rw [Nat.div_lt_iff_lt_mul (by omega)]
        exact Nat.lt_of_lt_of_le (isq_spec n).2 (Nat.mul_le_mul (by omega) (by omega))
      simp only [fix_Root.l0]
      rw [if_neg (by omega), tdiv_nat]
      generalize n / r = q at *
      have e2 : ((r : Int) + q) / 2 = (((r + q) / 2 : Nat) : Int) := by omega
      rw [w64_id (n := (q : Int)) (by omega) (by omega), w64_id (n := (r : Int) + q) (by omega) (by omega), Int.tdiv_eq_ediv_of_nonneg (by omega), e2, w64_id (by omega) (by omega), if_neg (by omega)]
      exact ih ((r + q) / 2) k hst (by omega) (by omega) (by omega)

theorem pow32 (s : Nat) (hs : s ≤ 32) : 2 ^ s ≤ 4294967296 := Nat.le_trans (Nat.pow_le_pow_right (by omega) hs) (by decide)

theorem shl_i64_one (s : Nat) (hs : s ≤ 32) : shl .i64 1 (s : Int) = ((2 ^ s : Nat) : Int) := by
  unfold shl
  rw [IntKind.wrap_i64, show min ((s : Int).toNat) (IntKind.i64.bits) = s by simp [IntKind.bits]; omega]
  have h := pow32 s hs
  rw [Int.one_mul, show ((2 : Int) ^ s) = ((2 ^ s : Nat) : Int) by simp]
  generalize 2 ^ s = z at *
  omega

theorem bits_le (m : Nat) (h0 : m ≠ 0) (h1 : m < 9223372036854775808) : m < 2 ^ Lib.bitLen m ∧ Lib.bitLen m ≤ 63 := by
  obtain ⟨b1, b2, b3, b4⟩ := bitLen_bounds m h0 (by omega)
  refine ⟨b2, ?_⟩
  rcases Nat.lt_or_ge 63 (Lib.bitLen m) with h | h
  · have h2 : 2 ^ 63 ≤ 2 ^ (Lib.bitLen m - 1) := Nat.pow_le_pow_right (by omega) (by omega)
    have h3 := Nat.le_trans h2 b1
    have h4 : (2 : Nat) ^ 63 = 9223372036854775808 := by decide
    rw [h4] at h3
    omega
  · exact h

theorem half_up (L : Nat) (h : L ≤ 63) : wrap64 (Int.tdiv (wrap64 ((L : Int) + 1)) 2) = (((L + 1) / 2 : Nat) : Int) := by
  rw [w64_id (n := (L : Int) + 1) (by omega) (by omega), Int.tdiv_eq_ediv_of_nonneg (by omega), w64_id (by omega) (by omega)]; omega

theorem start_ge {m L : Nat} (h : m < 2 ^ L) : isq m ≤ 2 ^ ((L + 1) / 2) := by
  apply isq_le
  have h1 : 2 ^ L ≤ 2 ^ ((L + 1) / 2) * 2 ^ ((L + 1) / 2) := by
    rw [← Nat.pow_add]; exact Nat.pow_le_pow_right (by omega) (by omega)
  have h2 : 2 ^ ((L + 1) / 2) * 2 ^ ((L + 1) / 2) ≤ (2 ^ ((L + 1) / 2) + 1) * (2 ^ ((L + 1) / 2) + 1) := Nat.mul_le_mul (Nat.le_succ _) (Nat.le_succ _)
  exact Nat.lt_of_lt_of_le h (Nat.le_trans h1 h2)

theorem len_eq (m : Nat) (h : m < 18446744073709551616) : bits_Len.f (m : Int) = some (Lib.bitLen m : Int) := by
  unfold bits_Len.f
  rw [if_pos (by omega), Int.toNat_natCast]

theorem root_pos (m : Nat) (h0 : 0 < m) (h1 : m < 9223372036854775808) (k : Nat) (hk : 4294967296 < k) : fix_Root.f k (m : Int) = some (isq m : Int) := by
  unfold fix_Root.f
  rw [if_neg (by omega), u64_id (by omega) (by omega), len_eq m (by omega), Option.bind_some]
  obtain ⟨b2, b5⟩ := bits_le m (by omega) h1
  obtain ⟨L, hL⟩ : ∃ L, L = Lib.bitLen m := ⟨_, rfl⟩
  rw [← hL] at b2 b5 ⊢
  clear hL
  rw [half_up L b5, if_pos (by omega), shl_i64_one _ (by omega)]
  have hp := pow32 ((L + 1) / 2) (by omega)
  have hle := start_ge b2
  obtain ⟨R, hR⟩ : ∃ R, R = 2 ^ ((L + 1) / 2) := ⟨_, rfl⟩
  rw [← hR] at hp hle ⊢
  exact root_l0 h0 h1 R R k hle (by omega) hp (Nat.lt_of_le_of_lt hp hk)

theorem root_eq (n : Int) (hn : n ≤ 9223372036854775807) (k : Nat) (hk : 4294967296 < k) : fix_Root.f k n = some (isq n.toNat : Int) := by
  by_cases h : n < 1
  · unfold fix_Root.f
    rw [if_pos h, show n.toNat = 0 by omega]; rfl
  · obtain ⟨m, rfl⟩ := Int.eq_ofNat_of_zero_le (show 0 ≤ n by omega)
    rw [Int.toNat_natCast]
    exact root_pos m (by omega) (by omega) k hk
end Go.Proofs.Ytaognlikgbcejaa.P
