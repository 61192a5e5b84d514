/- A piece is near what one of its halves is near, and only that. (prune.py) -/
import Derived.Test.YtnofihkmgedbfaaPx1
import Derived.Test.YtnofihkmgedbfaaPx2
import Derived.Test.YtnofihkmgedbfaaPx3
import Derived.Test.YtnofihkmgedbfaaPx7
import Derived.Test.YtnofihkmgedbfaaPx11
import Derived.KernelRfl
import Derived.Laws.BitsAllLaws
import Derived.Laws.MathBits
import Derived.Lib.BitFns
import Derived.Test.YtnofihkmgedbfaaSayStrokeParts
namespace Go.Proofs.Ytnofihkmgedbfaa.P
open Go.RowKit Go.Proofs.YtnofihkmgedbfaaW.PrintWords Go.Proofs.YtnofihkmgedbfaaW.PrintLast Go.Proofs.YtnofihkmgedbfaaW.PrintMore
theorem w64_id {n : Int} (h0 : -9223372036854775808 ≤ n) (h1 : n < 9223372036854775808) : wrap64 n = n := by unfold wrap64; omega
structure Digit (u v v1 v0 u1 Q : Int) : Prop where
  hv : v = v1 * 4294967296 + v0
  v0a : 0 ≤ v0
  v0b : v0 < 4294967296
  v1a : 2147483648 ≤ v1
  v1b : v1 < 4294967296
  ua : 0 ≤ u
  ub : u < v
  u1a : 0 ≤ u1
  u1b : u1 < 4294967296
  qa : Q * v ≤ u * 4294967296 + u1
  qb : u * 4294967296 + u1 < Q * v + v
theorem lt_of_mul {a b v : Int} (hv : 0 < v) (h : a * v < b * v) : a < b := by
  rcases Int.lt_or_le a b with h1 | h1
  · exact h1
  · have := Int.mul_le_mul_of_nonneg_right h1 (Int.le_of_lt hv); omega
namespace Digit
variable {u v v1 v0 u1 Q : Int}
theorem vpos (d : Digit u v v1 v0 u1 Q) : 0 < v := by have := d.hv; have := d.v1a; have := d.v0a; omega
theorem q0 (d : Digit u v v1 v0 u1 Q) : 0 ≤ Q := by
  have h := d.qb; have := d.ua; have := d.u1a; have hv := d.vpos
  have : -1 < Q := lt_of_mul hv (by have : (Q + 1) * v = Q * v + v := by rw [Int.add_mul, Int.one_mul]
                                    omega)
  omega
theorem qB (d : Digit u v v1 v0 u1 Q) : Q < 4294967296 := by
  have h := d.qa; have := d.ub; have := d.u1b; have hv := d.vpos
  exact lt_of_mul hv (by omega)
theorem below (d : Digit u v v1 v0 u1 Q) {q : Int} (h : u * 4294967296 + u1 < q * v) : Q < q := lt_of_mul d.vpos (by have := d.qa; omega)
theorem above (d : Digit u v v1 v0 u1 Q) {q : Int} (h : q * v ≤ u * 4294967296 + u1) : q ≤ Q := by
  have : q < Q + 1 := lt_of_mul d.vpos (by have := d.qb; rw [Int.add_mul, Int.one_mul]; omega)
  omega
theorem prod (d : Digit u v v1 v0 u1 Q) {q r : Int} (h : q * v1 + r = u) : q * v = (u - r) * 4294967296 + q * v0 := by
  rw [d.hv, Int.mul_add, ← Int.mul_assoc, show q * v1 = u - r by omega]
/-- The test says yes: the guess is too great. -/
theorem yes (d : Digit u v v1 v0 u1 Q) {q r : Int} (h : q * v1 + r = u) (ht : 4294967296 ≤ q ∨ 4294967296 * r + u1 < q * v0) : Q ≤ q - 1 := by
  rcases ht with ht | ht
  · have := d.qB; omega
  · have := d.below (q := q) (by rw [d.prod h]; omega); omega
/-- It says no: the guess is right. -/
theorem no (d : Digit u v v1 v0 u1 Q) {q r : Int} (h : q * v1 + r = u) (hq : Q ≤ q) (ht : q * v0 ≤ 4294967296 * r + u1) : q = Q := by
  have := d.above (q := q) (by rw [d.prod h]; omega); omega
/-- What is left over is great: the guess is right. -/
theorem out (d : Digit u v v1 v0 u1 Q) {q r : Int} (h : q * v1 + r = u) (hq : Q ≤ q) (hB : q ≤ 4294967296) (hr : 4294967296 ≤ r) : q = Q := by
  refine d.no h hq ?_
  have h0 := d.q0
  have h1 : q * v0 ≤ 4294967296 * v0 := Int.mul_le_mul_of_nonneg_right hB d.v0a
  have := d.v0b; have := d.u1a; omega
end Digit
/-- A digit, out of the division itself. -/
theorem Digit.of {u v v1 v0 u1 : Int} (hv : v = v1 * 4294967296 + v0) (v0a : 0 ≤ v0) (v0b : v0 < 4294967296) (v1a : 2147483648 ≤ v1) (v1b : v1 < 4294967296) (ua : 0 ≤ u) (ub : u < v) (u1a : 0 ≤ u1) (u1b : u1 < 4294967296) :
    Digit u v v1 v0 u1 ((u * 4294967296 + u1) / v) := by
  have h := Int.mul_ediv_add_emod (u * 4294967296 + u1) v
  have hm := Int.emod_nonneg (u * 4294967296 + u1) (show v ≠ 0 by omega)
  have hl := Int.emod_lt_of_pos (u * 4294967296 + u1) (show 0 < v by omega)
  rw [Int.mul_comm] at h
  exact ⟨hv, v0a, v0b, v1a, v1b, ua, ub, u1a, u1b, by omega, by omega⟩
end Go.Proofs.Ytnofihkmgedbfaa.P
namespace Go.Proofs.Ytnofihkmgedbfaa.P
open Go.RowKit Go.Proofs.YtnofihkmgedbfaaW.PrintWords Go.Proofs.YtnofihkmgedbfaaW.PrintLast Go.Proofs.YtnofihkmgedbfaaW.PrintMore
/-- Is it a number of 64 bits? -/
def I64 (x : Int) : Prop := -9223372036854775808 ≤ x ∧ x ≤ 9223372036854775807
instance (x : Int) : Decidable (I64 x) := by unfold I64; infer_instance
theorem mul_bound {a b : Int} {L M : Nat} (ha : a.natAbs ≤ L) (hb : b.natAbs ≤ M) : (a * b).natAbs ≤ L * M := by
  rw [Int.natAbs_mul]; exact Nat.mul_le_mul ha hb
theorem prod_bound {a b : Int} (ha : I64 a) (hb : I64 b) : (a * b).natAbs ≤ 85070591730234615865843651857942052864 := by
  have := mul_bound (a := a) (b := b) (L := 9223372036854775808) (M := 9223372036854775808) (by unfold I64 at ha; omega) (by unfold I64 at hb; omega)
  exact this
theorem times_eq {a b : Int} (ha : I64 a) (hb : I64 b) : fix_times.f a b = some (a * b / 18446744073709551616, a * b % 18446744073709551616) := by
  have hP := prod_bound ha hb
  unfold I64 at ha hb
  have key : ∀ (A B : Int), (A = a ∨ A = a + 18446744073709551616) → (B = b ∨ B = b + 18446744073709551616) → 0 ≤ A → A < 18446744073709551616 → 0 ≤ B → B < 18446744073709551616 →
      A * B / 18446744073709551616 = a * b / 18446744073709551616 + (if A = a then 0 else b) + (if B = b then 0 else a) + (if A = a ∨ B = b then 0 else 18446744073709551616) ∧ A * B % 18446744073709551616 = a * b % 18446744073709551616 := by
    intro A B h1 h2 _ _ _ _
    rcases h1 with rfl | rfl <;> rcases h2 with rfl | rfl
    · simp
    · rw [Int.mul_add, if_pos rfl, if_neg (by omega), if_pos (by simp)]
      generalize A * b = z at *
      omega
    · rw [Int.add_mul, if_neg (by omega), if_pos rfl, if_pos (by simp)]
      generalize a * B = z at *
      omega
    · rw [Int.add_mul, Int.mul_add, Int.mul_add, if_neg (by omega), if_neg (by omega), if_neg (by omega)]
      generalize a * b = z at *
      omega
  unfold fix_times.f bits_Mul64.f
  have wa : IntKind.u64.wrap a = a ∨ IntKind.u64.wrap a = a + 18446744073709551616 := by rw [IntKind.wrap_u64]; omega
  have wb : IntKind.u64.wrap b = b ∨ IntKind.u64.wrap b = b + 18446744073709551616 := by rw [IntKind.wrap_u64]; omega
  have ra : 0 ≤ IntKind.u64.wrap a ∧ IntKind.u64.wrap a < 18446744073709551616 := by rw [IntKind.wrap_u64]; omega
  have rb : 0 ≤ IntKind.u64.wrap b ∧ IntKind.u64.wrap b < 18446744073709551616 := by rw [IntKind.wrap_u64]; omega
  generalize hA : IntKind.u64.wrap a = A at *
  generalize hB : IntKind.u64.wrap b = B at *
  obtain ⟨k1, k2⟩ := key A B wa wb ra.1 ra.2 rb.1 rb.2
  rw [if_pos (by omega)]
  simp only [Option.bind_some]
  rw [k1, k2]
  generalize a * b = P at *
  have hq : -4611686018427387904 ≤ P / 18446744073709551616 ∧ P / 18446744073709551616 ≤ 4611686018427387904 := by omega
  generalize hr : P % 18446744073709551616 = r at *
  generalize P / 18446744073709551616 = q at *
  clear key k1 k2
  by_cases h1 : a < 0
  · have : A = a + 18446744073709551616 := by omega
    rw [if_pos h1, if_neg (show ¬ A = a by omega)]
    by_cases h2 : b < 0
    · rw [if_pos h2, if_neg (show ¬ B = b by omega), if_neg (by omega)]
      congr 2; simp only [IntKind.wrap_u64, wrap64]; omega
    · rw [if_neg h2, if_pos (show B = b by omega), if_pos (by omega)]
      congr 2; simp only [IntKind.wrap_u64, wrap64]; omega
  · rw [if_neg h1, if_pos (show A = a by omega)]
    by_cases h2 : b < 0
    · rw [if_pos h2, if_neg (show ¬ B = b by omega), if_pos (by omega)]
      congr 2; simp only [IntKind.wrap_u64, wrap64]; omega
    · rw [if_neg h2, if_pos (show B = b by omega), if_pos (by omega)]
      congr 2; simp only [wrap64]; omega
end Go.Proofs.Ytnofihkmgedbfaa.P
namespace Go.Proofs.Ytnofihkmgedbfaa.P
open Go.RowKit Go.Proofs.YtnofihkmgedbfaaW.PrintWords Go.Proofs.YtnofihkmgedbfaaW.PrintLast Go.Proofs.YtnofihkmgedbfaaW.PrintMore
/-- How two numbers stand. -/
def cmpS (x y : Int) : Int := if x < y then -1 else if y < x then 1 else 0
theorem below_eq (P Q : Int) : fix_wide_below.f (P / 18446744073709551616) (P % 18446744073709551616) (Q / 18446744073709551616) (Q % 18446744073709551616) = some (decide (P < Q)) := by
  unfold fix_wide_below.f
  by_cases h1 : P / 18446744073709551616 < Q / 18446744073709551616
  · rw [if_pos h1, decide_eq_true (by omega)]
  · rw [if_neg h1]
    by_cases h2 : P / 18446744073709551616 = Q / 18446744073709551616
    · rw [if_pos h2]; congr 1; rw [decide_eq_decide]; omega
    · rw [if_neg h2, decide_eq_false (by omega)]
theorem compare_eq {a b c d : Int} (ha : I64 a) (hb : I64 b) (hc : I64 c) (hd : I64 d) : fix_Compare.f a b c d = some (cmpS (a * b) (c * d)) := by
  unfold fix_Compare.f cmpS
  rw [times_eq ha hb, times_eq hc hd]
  simp only [Option.bind_some]
  rw [below_eq, below_eq]
  simp only [Option.bind_some, decide_eq_true_eq]
  by_cases h1 : a * b < c * d
  · rw [if_pos h1, if_pos h1]
  · rw [if_neg h1, if_neg h1]
    by_cases h2 : c * d < a * b
    · rw [if_pos h2, if_pos h2]
    · rw [if_neg h2, if_neg h2]
end Go.Proofs.Ytnofihkmgedbfaa.P
namespace Go.Proofs.Ytnofihkmgedbfaa.P
open Go.RowKit Go.Proofs.YtnofihkmgedbfaaW.PrintWords Go.Proofs.YtnofihkmgedbfaaW.PrintLast Go.Proofs.YtnofihkmgedbfaaW.PrintMore
/-- A place's worth. -/
def B (n : Nat) : Int := 65536 ^ n
end Go.Proofs.Ytnofihkmgedbfaa.P
namespace Go.Proofs.Ytnofihkmgedbfaa.P
open Go.RowKit Go.Proofs.YtnofihkmgedbfaaW.PrintWords Go.Proofs.YtnofihkmgedbfaaW.PrintLast Go.Proofs.YtnofihkmgedbfaaW.PrintMore
/-- Twice the area and the like, by the vectors of a piece and of a sample. -/
def nV (s t u v w : Int) : Prop :=
  if u * u + v * v ≤ s * u + t * v then 4 * ((s - u) * (s - u) + (t - v) * (t - v)) ≤ w * w
  else if s * u + t * v ≤ 0 then 4 * (s * s + t * t) ≤ w * w
  else (2 * (s * v - t * u)) * (2 * (s * v - t * u)) ≤ w * w * (u * u + v * v)
instance (s t u v w : Int) : Decidable (nV s t u v w) := by unfold nV; infer_instance
theorem sq_nn (a : Int) : 0 ≤ a * a := by
  rcases Int.le_total 0 a with h | h
  · exact Int.mul_nonneg h h
  · exact Int.mul_nonneg_of_nonpos_of_nonpos h h
theorem lag2 (s t u v : Int) : (2 * (s * v - t * u)) * (2 * (s * v - t * u)) = 4 * ((s - u) * (s - u) + (t - v) * (t - v)) * (u * u + v * v) - 4 * ((s * u + t * v - (u * u + v * v)) * (s * u + t * v - (u * u + v * v))) := by grind
theorem bee (s t u v : Int) : (s - u) * (s - u) + (t - v) * (t - v) = s * s + t * t - 2 * (s * u + t * v) + (u * u + v * v) := by grind
/-- A piece is near what one of its halves is near. -/
theorem nV_half (s t p q w : Int) : nV s t (2 * p) (2 * q) w ↔ (nV s t p q w ∨ nV (s - p) (t - q) p q w) := by
  have e1 : 2 * p * (2 * p) + 2 * q * (2 * q) = 4 * (p * p + q * q) := by grind
  have e2 : s * (2 * p) + t * (2 * q) = 2 * (s * p + t * q) := by grind
  have e3 : (s - p - p) = s - 2 * p := by omega
  have e4 : (t - q - q) = t - 2 * q := by omega
  have e5 : (s - p) * p + (t - q) * q = (s * p + t * q) - (p * p + q * q) := by grind
  have e6 : (2 * (s * (2 * q) - t * (2 * p))) * (2 * (s * (2 * q) - t * (2 * p))) = 4 * ((2 * (s * q - t * p)) * (2 * (s * q - t * p))) := by grind
  have e7 : (s - p) * q - (t - q) * p = s * q - t * p := by grind
  have e8 : w * w * (4 * (p * p + q * q)) = 4 * (w * w * (p * p + q * q)) := by grind
  have f1 : (s - 2 * p) * (s - 2 * p) + (t - 2 * q) * (t - 2 * q) = (s - p) * (s - p) + (t - q) * (t - q) - 2 * ((s * p + t * q) - (p * p + q * q)) + (p * p + q * q) := by grind
  have f2 := bee s t p q
  have l := lag2 s t p q
  have c0 : 0 ≤ p * p + q * q := by have := sq_nn p; have := sq_nn q; omega
  have hd : (s * p + t * q - (p * p + q * q)) * (s * p + t * q - (p * p + q * q)) = 0 → s * p + t * q = p * p + q * q := by
    intro h; rcases Int.mul_eq_zero.mp h with h | h <;> omega
  have hz : s * p + t * q = p * p + q * q → (s * p + t * q - (p * p + q * q)) * (s * p + t * q - (p * p + q * q)) = 0 := by
    intro h; rw [h, Int.sub_self]; rfl
  have hq := sq_nn (s * p + t * q - (p * p + q * q))
  have m1 : 0 < p * p + q * q → (4 * ((s - p) * (s - p) + (t - q) * (t - q)) ≤ w * w ↔ 4 * ((s - p) * (s - p) + (t - q) * (t - q)) * (p * p + q * q) ≤ w * w * (p * p + q * q)) :=
    fun hc => ⟨fun h => Int.mul_le_mul_of_nonneg_right h c0, fun h => Int.le_of_mul_le_mul_right h hc⟩
  unfold nV
  rw [e1, e2, e3, e4, e5, e6, e7, e8]
  rw [f1]
  generalize (s * p + t * q - (p * p + q * q)) * (s * p + t * q - (p * p + q * q)) = D2 at *
  generalize (2 * (s * q - t * p)) * (2 * (s * q - t * p)) = X at *
  generalize 4 * ((s - p) * (s - p) + (t - q) * (t - q)) * (p * p + q * q) = Z at *
  generalize w * w * (p * p + q * q) = Y at *
  generalize (s - p) * (s - p) + (t - q) * (t - q) = B at *
  generalize s * s + t * t = A at *
  generalize s * p + t * q = d at *
  generalize p * p + q * q = c at *
  generalize w * w = W at *
  by_cases hc : c = 0
  · subst hc
    by_cases g1 : 0 ≤ d
    · rw [if_pos (by omega), if_pos g1, if_pos (by omega)]; constructor
      · intro h; omega
      · rintro (h | h) <;> omega
    · rw [if_neg (by omega), if_pos (by omega), if_neg (by omega), if_pos (by omega), if_neg (by omega), if_pos (by omega)]; constructor
      · intro h; omega
      · rintro (h | h) <;> omega
  · have m := m1 (by omega)
    by_cases g1 : d ≤ 0
    · rw [if_neg (by omega), if_pos (by omega), if_neg (by omega), if_pos (by omega), if_neg (by omega), if_pos (by omega)]; constructor
      · intro h; omega
      · rintro (h | h) <;> omega
    · by_cases g2 : d < c
      · rw [if_neg (by omega), if_neg (by omega), if_neg (by omega), if_neg (by omega), if_neg (by omega), if_pos (by omega)]; constructor
        · intro h; omega
        · rintro (h | h)
          · omega
          · have := m.mp h; omega
      · by_cases g3 : d = c
        · have := hz g3
          rw [if_neg (by omega), if_neg (by omega), if_pos (by omega), if_neg (by omega), if_pos (by omega)]; constructor
          · intro h; right; apply m.mpr; omega
          · rintro (h | h)
            · have := m.mp h; omega
            · have := m.mp h; omega
        · by_cases g4 : d < 2 * c
          · rw [if_neg (by omega), if_neg (by omega), if_pos (by omega), if_neg (by omega), if_neg (by omega)]; constructor
            · intro h; omega
            · rintro (h | h)
              · have := m.mp h; omega
              · omega
          · rw [if_pos (by omega), if_pos (by omega), if_pos (by omega)]; constructor
            · intro h; omega
            · rintro (h | h) <;> omega
theorem and_low (n : Int) (m : Nat) (hm : m ≤ 62) (c : Int) (hc : c = ((2 ^ m - 1 : Nat) : Int)) : Go.bits .and .i64 n c = n % ((2 ^ m : Nat) : Int) := by
  subst hc
  have hp := Nat.two_pow_pos m
  have hp2 : 2 ^ m ≤ 2 ^ 62 := Nat.pow_le_pow_right (by omega) hm
  have h1 : (BitVec.ofInt 64 ((2 ^ m - 1 : Nat) : Int)).toNat = 2 ^ m - 1 := by
    rw [BitVec.toNat_ofInt]
    generalize 2 ^ m = p at *
    have : (2 : Nat) ^ 64 = 18446744073709551616 := by decide
    rw [this]; omega
  have key : (BitVec.ofInt 64 n &&& BitVec.ofInt 64 ((2 ^ m - 1 : Nat) : Int)).toNat = (n % ((2 ^ 64 : Nat) : Int)).toNat % 2 ^ m := by
    rw [BitVec.toNat_and, BitVec.toNat_ofInt, h1, Nat.and_two_pow_sub_one_eq_mod]
  show IntKind.i64.wrap ((BitVec.ofInt 64 n &&& BitVec.ofInt 64 ((2 ^ m - 1 : Nat) : Int)).toNat : Nat) = n % ((2 ^ m : Nat) : Int)
  rw [key, IntKind.wrap_i64]
  have hdvd : ((2 ^ m : Nat) : Int) ∣ ((2 ^ 64 : Nat) : Int) := by
    rw [Int.natCast_dvd_natCast]; exact Nat.pow_dvd_pow 2 (by omega)
  have e : (((n % ((2 ^ 64 : Nat) : Int)).toNat % 2 ^ m : Nat) : Int) = n % ((2 ^ m : Nat) : Int) := by
    rw [Int.natCast_emod, Int.toNat_of_nonneg (Int.emod_nonneg _ (by decide)), Int.emod_emod_of_dvd _ hdvd]
  rw [e]
  have h0 := Int.emod_nonneg n (show ((2 ^ m : Nat) : Int) ≠ 0 by omega)
  have h2 := Int.emod_lt_of_pos n (show 0 < ((2 ^ m : Nat) : Int) by omega)
  have h62 : (2 : Nat) ^ 62 = 4611686018427387904 := by decide
  generalize n % ((2 ^ m : Nat) : Int) = z at *
  generalize 2 ^ m = p at *
  omega
theorem and1 (n : Int) : Go.bits .and .i64 n 1 = n % 2 := and_low n 1 (by omega) 1 (by decide)
/-- May a point be a curve's? -/
def EvP (x y : Int) : Prop := x % 2 = 0 ∧ y % 2 = 0 ∧ -16777216 ≤ x ∧ x ≤ 16777216 ∧ -16777216 ≤ y ∧ y ≤ 16777216
instance (x y : Int) : Decidable (EvP x y) := by unfold EvP; infer_instance
theorem even_eq (x y : Int) : curve_Even.f x y = some (decide (EvP x y)) := by
  unfold curve_Even.f
  rw [and1, and1]
  by_cases h1 : x % 2 = 0
  · rw [if_pos h1]
    by_cases h2 : y % 2 = 0
    · rw [if_pos h2]
      by_cases h3 : mx x y ≤ 16777216
      · rw [if_pos h3]; congr 1; apply decide_eq_decide.mpr; unfold EvP; unfold mx at h3; unfold mn; omega
      · rw [if_neg h3]; congr 1; symm; apply decide_eq_false; unfold EvP; unfold mx at h3; omega
    · rw [if_neg h2]; congr 1; symm; apply decide_eq_false; unfold EvP; omega
  · rw [if_neg h1]; congr 1; symm; apply decide_eq_false; unfold EvP; omega
theorem tmod2 (x : Int) : Int.tmod x 2 = 0 ↔ x % 2 = 0 := by rw [← Int.dvd_iff_tmod_eq_zero, Int.dvd_iff_emod_eq_zero]
theorem evenR_eq (x y : Int) (k : Nat) (hk : 10 ≤ k) : celluloidref16_Even.f k x y = some (decide (EvP x y)) := by
  obtain ⟨k, rfl⟩ : ∃ m, k = m + 10 := ⟨k - 10, by omega⟩
  have step : ∀ (i : Nat) (k : Nat), i < 2 → celluloidref16_Even.l0 (k + 1) [x, y] 2 (i : Int) = if rd [x, y] (i : Int) % 2 = 0 ∧ rd [x, y] (i : Int) ≤ 16777216 ∧ -16777216 ≤ rd [x, y] (i : Int) then celluloidref16_Even.l0 k [x, y] 2 ((i : Int) + 1) else some false := by
    intro i k hi
    rw [celluloidref16_Even.l0, if_pos (by omega), if_pos (by omega), if_pos (by simp; omega)]
    generalize rd [x, y] (i : Int) = z
    have ht := tmod2 z
    by_cases h1 : z % 2 = 0
    · rw [if_pos (ht.mpr h1)]
      by_cases h2 : z > 16777216
      · rw [if_pos h2, if_neg (by omega)]
      · rw [if_neg h2]
        by_cases h3 : z < -16777216
        · rw [if_pos h3, if_neg (by omega)]
        · rw [if_neg h3, if_pos (by omega), w64_id (by omega) (by omega)]
    · rw [if_neg (fun h => h1 (ht.mp h)), if_neg (by omega)]
  have e : celluloidref16_Even.f (k + 10) x y = celluloidref16_Even.l0 (k + 10) [x, y] 2 ((0 : Nat) : Int) := rfl
  rw [e, step 0 (k + 9) (by omega)]
  have r0 : rd [x, y] ((0 : Nat) : Int) = x := rfl
  have r1 : rd [x, y] ((1 : Nat) : Int) = y := rfl
  rw [r0]
  by_cases h : x % 2 = 0 ∧ x ≤ 16777216 ∧ -16777216 ≤ x
  · rw [if_pos h, show ((0 : Nat) : Int) + 1 = ((1 : Nat) : Int) from rfl, step 1 (k + 8) (by omega), r1]
    by_cases h' : y % 2 = 0 ∧ y ≤ 16777216 ∧ -16777216 ≤ y
    · rw [if_pos h', celluloidref16_Even.l0, if_neg (by omega)]; congr 1; symm; apply decide_eq_true; unfold EvP; omega
    · rw [if_neg h']; congr 1; symm; apply decide_eq_false; unfold EvP; omega
  · rw [if_neg h]; congr 1; symm; apply decide_eq_false; unfold EvP; omega
/-- Is a piece right? -/
def PieceR (ax ay bx bz l w : Int) : Prop := EvP ax ay ∧ EvP bx bz ∧ 0 < l ∧ l < 256 ∧ 0 < w ∧ w ≤ 1048576
instance (ax ay bx bz l w : Int) : Decidable (PieceR ax ay bx bz l w) := by unfold PieceR; infer_instance
/-- Is a sample near a piece? -/
def nP (ax ay bx bz w x y : Int) : Prop := nV (x - ax) (y - ay) (bx - ax) (bz - ay) w
instance (ax ay bx bz w x y : Int) : Decidable (nP ax ay bx bz w x y) := by unfold nP; infer_instance
/-- May a sample be there? -/
def Inn (x y : Int) : Prop := -16777216 ≤ x ∧ x ≤ 16777216 ∧ -16777216 ≤ y ∧ y ≤ 16777216
instance (x y : Int) : Decidable (Inn x y) := by unfold Inn; infer_instance
theorem piece_eq (ax ay bx bz l w : Int) : stroke_RightPiece.f ax ay bx bz l w = some (decide (PieceR ax ay bx bz l w)) := by
  unfold stroke_RightPiece.f
  rw [even_eq, even_eq, Option.bind_some, Option.bind_some]
  unfold PieceR
  by_cases h1 : EvP ax ay
  · rw [if_pos (decide_eq_true h1)]
    by_cases h2 : EvP bx bz
    · rw [if_pos (decide_eq_true h2)]
      by_cases h3 : l ≥ 1
      · rw [if_pos h3]
        by_cases h4 : l < 256
        · rw [if_pos h4]
          by_cases h5 : w ≥ 1
          · rw [if_pos h5]; congr 1; exact decide_eq_decide.mpr ⟨fun h => ⟨h1, h2, by omega, h4, by omega, h⟩, fun h => h.2.2.2.2.2⟩
          · rw [if_neg h5]; congr 1; symm; apply decide_eq_false; intro h; omega
        · rw [if_neg h4]; congr 1; symm; apply decide_eq_false; intro h; exact h4 h.2.2.2.1
      · rw [if_neg h3]; congr 1; symm; apply decide_eq_false; intro h; omega
    · rw [if_neg (by simpa using h2)]; congr 1; symm; apply decide_eq_false; intro h; exact h2 h.2.1
  · rw [if_neg (by simpa using h1)]; congr 1; symm; apply decide_eq_false; intro h; exact h1 h.1
theorem pieceR_eq (ax ay bx bz l w : Int) (k : Nat) (hk : 10 ≤ k) : celluloidref18_Right.f k ax ay bx bz l w = some (decide (PieceR ax ay bx bz l w)) := by
  unfold celluloidref18_Right.f
  rw [evenR_eq _ _ k hk, evenR_eq _ _ k hk, Option.bind_some, Option.bind_some]
  unfold PieceR
  by_cases h1 : EvP ax ay
  · rw [if_pos (decide_eq_true h1)]
    by_cases h2 : EvP bx bz
    · rw [if_pos (decide_eq_true h2)]
      by_cases h3 : l > 0
      · rw [if_pos h3]
        by_cases h4 : l < 256
        · rw [if_pos h4]
          by_cases h5 : w > 0
          · rw [if_pos h5]; congr 1; exact decide_eq_decide.mpr ⟨fun h => ⟨h1, h2, h3, h4, h5, h⟩, fun h => h.2.2.2.2.2⟩
          · rw [if_neg h5]; congr 1; symm; apply decide_eq_false; intro h; exact h5 h.2.2.2.2.1
        · rw [if_neg h4]; congr 1; symm; apply decide_eq_false; intro h; exact h4 h.2.2.2.1
      · rw [if_neg h3]; congr 1; symm; apply decide_eq_false; intro h; exact h3 h.2.2.1
    · rw [if_neg (by simpa using h2)]; congr 1; symm; apply decide_eq_false; intro h; exact h2 h.2.1
  · rw [if_neg (by simpa using h1)]; congr 1; symm; apply decide_eq_false; intro h; exact h1 h.1
/-- Numbers whose product fits. -/
theorem pb {a b : Int} (ha : -33554432 ≤ a ∧ a ≤ 33554432) (hb : -33554432 ≤ b ∧ b ≤ 33554432) : -1125899906842624 ≤ a * b ∧ a * b ≤ 1125899906842624 := by
  have h1 := Int.mul_nonneg (a := 33554432 - a) (b := 33554432 - b) (by omega) (by omega)
  have h2 := Int.mul_nonneg (a := 33554432 + a) (b := 33554432 + b) (by omega) (by omega)
  have h3 := Int.mul_nonneg (a := 33554432 - a) (b := 33554432 + b) (by omega) (by omega)
  have h4 := Int.mul_nonneg (a := 33554432 + a) (b := 33554432 - b) (by omega) (by omega)
  have e1 : (33554432 - a) * (33554432 - b) = 1125899906842624 - 33554432 * a - 33554432 * b + a * b := by grind
  have e2 : (33554432 + a) * (33554432 + b) = 1125899906842624 + 33554432 * a + 33554432 * b + a * b := by grind
  have e3 : (33554432 - a) * (33554432 + b) = 1125899906842624 - 33554432 * a + 33554432 * b - a * b := by grind
  have e4 : (33554432 + a) * (33554432 - b) = 1125899906842624 + 33554432 * a - 33554432 * b - a * b := by grind
  omega
theorem cmp_le (x y : Int) : cmpS x y ≤ 0 ↔ x ≤ y := by
  unfold cmpS
  by_cases h : x < y
  · rw [if_pos h]; omega
  · rw [if_neg h]
    by_cases h' : y < x
    · rw [if_pos h']; omega
    · rw [if_neg h']; omega
theorem near_eq {ax ay bx bz l w x y : Int} (h : PieceR ax ay bx bz l w) (hi : Inn x y) : stroke_near.f ax ay bx bz l w x y = some (decide (nP ax ay bx bz w x y)) := by
  obtain ⟨ha, hb, _, _, hw0, hw1⟩ := h
  unfold EvP at ha hb
  unfold Inn at hi
  have eP : decide (nP ax ay bx bz w x y) = decide (nV (x - ax) (y - ay) (bx - ax) (bz - ay) w) := decide_eq_decide.mpr Iff.rfl
  rw [eP]
  unfold stroke_near.f
  clear eP
  have eW : wrap64 (w * w) = w * w := w64_id (by have := pb (a := w) (b := w) (by omega) (by omega); omega) (by have := pb (a := w) (b := w) (by omega) (by omega); omega)
  have e1 : wrap64 (x - ax) = x - ax := w64_id (by omega) (by omega)
  have e2 : wrap64 (y - ay) = y - ay := w64_id (by omega) (by omega)
  have e3 : wrap64 (bx - ax) = bx - ax := w64_id (by omega) (by omega)
  have e4 : wrap64 (bz - ay) = bz - ay := w64_id (by omega) (by omega)
  have e5 : wrap64 (x - bx) = (x - ax) - (bx - ax) := by rw [w64_id (by omega) (by omega)]; omega
  have e6 : wrap64 (y - bz) = (y - ay) - (bz - ay) := by rw [w64_id (by omega) (by omega)]; omega
  rw [eW, e1, e2, e3, e4, e5, e6]
  have hs : -33554432 ≤ x - ax ∧ x - ax ≤ 33554432 := by omega
  have ht : -33554432 ≤ y - ay ∧ y - ay ≤ 33554432 := by omega
  have hu : -33554432 ≤ bx - ax ∧ bx - ax ≤ 33554432 := by omega
  have hv : -33554432 ≤ bz - ay ∧ bz - ay ≤ 33554432 := by omega
  have hsu : -33554432 ≤ (x - ax) - (bx - ax) ∧ (x - ax) - (bx - ax) ≤ 33554432 := by omega
  have htv : -33554432 ≤ (y - ay) - (bz - ay) ∧ (y - ay) - (bz - ay) ≤ 33554432 := by omega
  have hwp := pb (a := w) (b := w) (by omega) (by omega)
  clear eW e1 e2 e3 e4 e5 e6 hi ha hb hw0 hw1
  generalize x - ax = s at *
  generalize y - ay = t at *
  generalize bx - ax = u at *
  generalize bz - ay = v at *
  have p1 := pb hs hu
  have p2 := pb ht hv
  have p3 := pb hu hu
  have p4 := pb hv hv
  have p5 := pb hsu hsu
  have p6 := pb htv htv
  have p7 := pb hs hs
  have p8 := pb ht ht
  have p9 := pb hs hv
  have p10 := pb ht hu
  rw [w64_id (n := s * u) (by omega) (by omega), w64_id (n := t * v) (by omega) (by omega), w64_id (n := u * u) (by omega) (by omega), w64_id (n := v * v) (by omega) (by omega), w64_id (n := (s - u) * (s - u)) (by omega) (by omega), w64_id (n := (t - v) * (t - v)) (by omega) (by omega), w64_id (n := s * s) (by omega) (by omega), w64_id (n := t * t) (by omega) (by omega), w64_id (n := s * v) (by omega) (by omega), w64_id (n := t * u) (by omega) (by omega),
    w64_id (n := s * u + t * v) (by omega) (by omega), w64_id (n := u * u + v * v) (by omega) (by omega), w64_id (n := (s - u) * (s - u) + (t - v) * (t - v)) (by omega) (by omega), w64_id (n := s * s + t * t) (by omega) (by omega), w64_id (n := s * v - t * u) (by omega) (by omega), w64_id (n := 4 * ((s - u) * (s - u) + (t - v) * (t - v))) (by omega) (by omega), w64_id (n := 4 * (s * s + t * t)) (by omega) (by omega), w64_id (n := 2 * (s * v - t * u)) (by omega) (by omega)]
  by_cases h1 : u * u + v * v ≤ s * u + t * v
  · have e : nV s t u v w ↔ 4 * ((s - u) * (s - u) + (t - v) * (t - v)) ≤ w * w := by unfold nV; rw [if_pos h1]
    have e' : decide (nV s t u v w) = decide (4 * ((s - u) * (s - u) + (t - v) * (t - v)) ≤ w * w) := decide_eq_decide.mpr e
    rw [if_pos h1, e']
    by_cases h2 : s * u + t * v ≤ 0
    · rw [if_pos h2]
    · rw [if_neg h2]
  · rw [if_neg h1]
    by_cases h2 : s * u + t * v ≤ 0
    · have e : nV s t u v w ↔ 4 * (s * s + t * t) ≤ w * w := by unfold nV; rw [if_neg h1, if_pos h2]
      have e' : decide (nV s t u v w) = decide (4 * (s * s + t * t) ≤ w * w) := decide_eq_decide.mpr e
      rw [if_pos h2, e']
    · have e : nV s t u v w ↔ (2 * (s * v - t * u)) * (2 * (s * v - t * u)) ≤ w * w * (u * u + v * v) := by unfold nV; rw [if_neg h1, if_neg h2]
      have e' : decide (cmpS (2 * (s * v - t * u) * (2 * (s * v - t * u))) (w * w * (u * u + v * v)) ≤ 0) = decide (nV s t u v w) := decide_eq_decide.mpr ((cmp_le _ _).trans e.symm)
      rw [if_neg h2, compare_eq (by unfold I64; omega) (by unfold I64; omega) (by unfold I64; omega) (by unfold I64; omega), Option.bind_some, e']
theorem Near_eq (ax ay bx bz l w x y : Int) : stroke_Near.f ax ay bx bz l w x y = some (decide (PieceR ax ay bx bz l w ∧ Inn x y ∧ nP ax ay bx bz w x y)) := by
  unfold stroke_Near.f
  rw [piece_eq, Option.bind_some]
  by_cases h : PieceR ax ay bx bz l w
  · rw [if_pos (decide_eq_true h)]
    by_cases h1 : mx x y > 16777216
    · rw [if_pos h1, decide_eq_false]
      rintro ⟨_, hi, _⟩; unfold Inn at hi; unfold mx at h1; omega
    · rw [if_neg h1]
      by_cases h2 : mn x y < -16777216
      · rw [if_pos h2, decide_eq_false]
        rintro ⟨_, hi, _⟩; unfold Inn at hi; unfold mn at h2; omega
      · have hi : Inn x y := by unfold Inn; unfold mx at h1; unfold mn at h2; omega
        rw [if_neg h2, near_eq h hi, Option.bind_some]
        congr 1; exact decide_eq_decide.mpr ⟨fun g => ⟨h, hi, g⟩, fun g => g.2.2⟩
  · rw [if_neg (by simpa using h), decide_eq_false (fun g => h g.1)]
theorem awake_at : celluloidlaw18_awake.f 200 = some true := by kernel_rfl
theorem awake_eq (k : Nat) (hk : 200 ≤ k) : celluloidlaw18_awake.f k = some true := at_rounds celluloidlaw18_awake.mono hk awake_at
end Go.Proofs.Ytnofihkmgedbfaa.P
namespace Go.Proofs.Ytnofihkmgedbfaa.Pure
open Go.RowKit Go.Proofs.Ytnofihkmgedbfaa.P Go.Proofs.YtnofihkmgedbfaaW.PrintWords Go.Proofs.YtnofihkmgedbfaaW.PrintLast Go.Proofs.YtnofihkmgedbfaaW.PrintMore
theorem StrokeParts : celluloidlaw18_StrokeParts.Pure := by
  intro p x y _ _ _
  refine ⟨201, ?_⟩
  unfold celluloidlaw18_StrokeParts.f celluloidlaw18_ref.f
  generalize p.f0.f0 = ax
  generalize p.f0.f1 = ay
  generalize p.f1.f0 = bx
  generalize p.f1.f1 = bz
  generalize p.f2 = l
  generalize p.f3 = w
  rw [Option.bind_some]
  dsimp only
  rw [pieceR_eq _ _ _ _ _ _ 201 (by omega), Option.bind_some]
  have yes : ∀ a b, celluloidlaw18_StrokeParts.j0 201 x y true ax ay bx bz l w a b = some true := by
    intro a b; rw [celluloidlaw18_StrokeParts.j0, if_pos rfl, awake_eq 200 (by omega)]; rfl
  by_cases h : PieceR ax ay bx bz l w
  · rw [if_pos (decide_eq_true h)]
    obtain ⟨ha, hb, hl0, hl1, hw0, hw1⟩ := h
    unfold EvP at ha hb
    have e1 : wrap64 (ax + bx) = ax + bx := w64_id (by omega) (by omega)
    have e2 : wrap64 (ay + bz) = ay + bz := w64_id (by omega) (by omega)
    rw [e1, e2]
    obtain ⟨mx_, hmx⟩ : ∃ z, z = Int.tdiv (ax + bx) 2 := ⟨_, rfl⟩
    obtain ⟨my_, hmy⟩ : ∃ z, z = Int.tdiv (ay + bz) 2 := ⟨_, rfl⟩
    rw [← hmx, ← hmy]
    have b1 : 2 * mx_ = ax + bx ∧ -16777216 ≤ mx_ ∧ mx_ ≤ 16777216 := by
      have := Int.mul_tdiv_add_tmod (ax + bx) 2
      have h2 : Int.tmod (ax + bx) 2 = 0 := by rw [← Int.dvd_iff_tmod_eq_zero, Int.dvd_iff_emod_eq_zero]; omega
      omega
    have b2 : 2 * my_ = ay + bz ∧ -16777216 ≤ my_ ∧ my_ ≤ 16777216 := by
      have := Int.mul_tdiv_add_tmod (ay + bz) 2
      have h2 : Int.tmod (ay + bz) 2 = 0 := by rw [← Int.dvd_iff_tmod_eq_zero, Int.dvd_iff_emod_eq_zero]; omega
      omega
    rw [w64_id (n := mx_) (by omega) (by omega), w64_id (n := my_) (by omega) (by omega), w64_id (n := 2 * mx_) (by omega) (by omega), w64_id (n := 2 * my_) (by omega) (by omega), if_pos b1.1, if_pos b2.1]
    by_cases g1 : Int.tmod mx_ 2 = 0
    · rw [if_pos g1]
      by_cases g2 : Int.tmod my_ 2 = 0
      · rw [show (Int.tmod my_ 2 != 0) = false by rw [g2]; rfl]
        rw [tmod2] at g1 g2
        rw [celluloidlaw18_StrokeParts.j0, if_neg (by simp), Near_eq, Option.bind_some, Near_eq, Option.bind_some, Near_eq, Option.bind_some, awake_eq 200 (by omega), Option.bind_some]
        have r0 : PieceR ax ay bx bz l w := ⟨by unfold EvP; omega, by unfold EvP; omega, hl0, hl1, hw0, hw1⟩
        have r1 : PieceR ax ay mx_ my_ l w := ⟨by unfold EvP; omega, by unfold EvP; omega, hl0, hl1, hw0, hw1⟩
        have r2 : PieceR mx_ my_ bx bz l w := ⟨by unfold EvP; omega, by unfold EvP; omega, hl0, hl1, hw0, hw1⟩
        have key : nP ax ay bx bz w x y ↔ nP ax ay mx_ my_ w x y ∨ nP mx_ my_ bx bz w x y := by
          have hh := nV_half (x - ax) (y - ay) (mx_ - ax) (my_ - ay) w
          rw [show 2 * (mx_ - ax) = bx - ax by omega, show 2 * (my_ - ay) = bz - ay by omega, show x - ax - (mx_ - ax) = x - mx_ by omega, show y - ay - (my_ - ay) = y - my_ by omega] at hh
          unfold nP
          rw [show bx - mx_ = mx_ - ax by omega, show bz - my_ = my_ - ay by omega]
          exact hh
        by_cases c1 : PieceR ax ay mx_ my_ l w ∧ Inn x y ∧ nP ax ay mx_ my_ w x y
        · rw [if_pos (decide_eq_true c1), decide_eq_true (⟨r0, c1.2.1, key.mpr (.inl c1.2.2)⟩ : PieceR ax ay bx bz l w ∧ Inn x y ∧ nP ax ay bx bz w x y)]; rfl
        · rw [if_neg (by simpa using c1), if_pos]
          rw [beq_iff_eq]
          apply decide_eq_decide.mpr
          constructor
          · rintro ⟨_, i, n⟩
            rcases key.mp n with n | n
            · exact absurd ⟨r1, i, n⟩ c1
            · exact ⟨r2, i, n⟩
          · rintro ⟨_, i, n⟩; exact ⟨r0, i, key.mpr (.inr n)⟩
      · rw [show (Int.tmod my_ 2 != 0) = true by simpa using g2]; exact yes _ _
    · rw [if_neg g1]; exact yes _ _
  · rw [if_neg (by simpa using h)]; exact yes _ _
end Go.Proofs.Ytnofihkmgedbfaa.Pure
