/- Segments that are turned about, their sides changed, in any order, have the same owners. (prune.py) -/
import Derived.Test.YtgmegmhioiljcaaPx0
import Derived.Test.YtgmegmhioiljcaaPx1
import Derived.Test.YtgmegmhioiljcaaPx2
import Derived.Test.YtgmegmhioiljcaaPx3
import Derived.Test.YtgmegmhioiljcaaPx4
import Derived.Test.YtgmegmhioiljcaaPx5
import Derived.Test.YtgmegmhioiljcaaPx6
import Derived.Test.YtgmegmhioiljcaaPx11
import Derived.KernelRfl
import Derived.Laws.BitsAllLaws
import Derived.Laws.MathBits
import Derived.Lib.BitFns
import Derived.Sort.Statements
import Derived.Test.YtgmegmhioiljcaaSaySweepTurns
namespace Go.Proofs.Ytgmegmhioiljcaa.P
open Go.RowKit Go.Proofs.YtgmegmhioiljcaaW.PrintWords Go.Proofs.YtgmegmhioiljcaaW.PrintLast Go.Proofs.YtgmegmhioiljcaaW.PrintMore
theorem u64_id {n : Int} (h0 : 0 ≤ n) (h1 : n < 18446744073709551616) : IntKind.u64.wrap n = n := by rw [IntKind.wrap_u64]; omega
theorem w64_id {n : Int} (h0 : -9223372036854775808 ≤ n) (h1 : n < 9223372036854775808) : wrap64 n = n := by unfold wrap64; omega
structure Digit (u v v1 v0 u1 Q : Int) : Prop where
  hv : v = v1 * 4294967296 + v0
  v0a : 0 ≤ v0
  v0b : v0 < 4294967296
  v1a : 2147483648 ≤ v1
  v1b : v1 < 4294967296
  ua : 0 ≤ u
  ub : u < v
  u1a : 0 ≤ u1
  u1b : u1 < 4294967296
  qa : Q * v ≤ u * 4294967296 + u1
  qb : u * 4294967296 + u1 < Q * v + v
theorem lt_of_mul {a b v : Int} (hv : 0 < v) (h : a * v < b * v) : a < b := by
  rcases Int.lt_or_le a b with h1 | h1
  · exact h1
  · have := Int.mul_le_mul_of_nonneg_right h1 (Int.le_of_lt hv); omega
namespace Digit
variable {u v v1 v0 u1 Q : Int}
theorem vpos (d : Digit u v v1 v0 u1 Q) : 0 < v := by have := d.hv; have := d.v1a; have := d.v0a; omega
theorem q0 (d : Digit u v v1 v0 u1 Q) : 0 ≤ Q := by
  have h := d.qb; have := d.ua; have := d.u1a; have hv := d.vpos
  have : -1 < Q := lt_of_mul hv (by have : (Q + 1) * v = Q * v + v := by rw [Int.add_mul, Int.one_mul]
                                    omega)
  omega
theorem qB (d : Digit u v v1 v0 u1 Q) : Q < 4294967296 := by
  have h := d.qa; have := d.ub; have := d.u1b; have hv := d.vpos
  exact lt_of_mul hv (by omega)
theorem below (d : Digit u v v1 v0 u1 Q) {q : Int} (h : u * 4294967296 + u1 < q * v) : Q < q := lt_of_mul d.vpos (by have := d.qa; omega)
theorem above (d : Digit u v v1 v0 u1 Q) {q : Int} (h : q * v ≤ u * 4294967296 + u1) : q ≤ Q := by
  have : q < Q + 1 := lt_of_mul d.vpos (by have := d.qb; rw [Int.add_mul, Int.one_mul]; omega)
  omega
theorem prod (d : Digit u v v1 v0 u1 Q) {q r : Int} (h : q * v1 + r = u) : q * v = (u - r) * 4294967296 + q * v0 := by
  rw [d.hv, Int.mul_add, ← Int.mul_assoc, show q * v1 = u - r by omega]
/-- The test says yes: the guess is too great. -/
theorem yes (d : Digit u v v1 v0 u1 Q) {q r : Int} (h : q * v1 + r = u) (ht : 4294967296 ≤ q ∨ 4294967296 * r + u1 < q * v0) : Q ≤ q - 1 := by
  rcases ht with ht | ht
  · have := d.qB; omega
  · have := d.below (q := q) (by rw [d.prod h]; omega); omega
/-- It says no: the guess is right. -/
theorem no (d : Digit u v v1 v0 u1 Q) {q r : Int} (h : q * v1 + r = u) (hq : Q ≤ q) (ht : q * v0 ≤ 4294967296 * r + u1) : q = Q := by
  have := d.above (q := q) (by rw [d.prod h]; omega); omega
/-- What is left over is great: the guess is right. -/
theorem out (d : Digit u v v1 v0 u1 Q) {q r : Int} (h : q * v1 + r = u) (hq : Q ≤ q) (hB : q ≤ 4294967296) (hr : 4294967296 ≤ r) : q = Q := by
  refine d.no h hq ?_
  have h0 := d.q0
  have h1 : q * v0 ≤ 4294967296 * v0 := Int.mul_le_mul_of_nonneg_right hB d.v0a
  have := d.v0b; have := d.u1a; omega
theorem small (d : Digit u v v1 v0 u1 Q) {q : Int} (h0 : 0 ≤ q) (h1 : q < 4294967296) : 0 ≤ q * v0 ∧ q * v0 < 18446744073709551616 := by
  have h2 : q * v0 ≤ 4294967295 * v0 := Int.mul_le_mul_of_nonneg_right (by omega) d.v0a
  have := d.v0b
  exact ⟨Int.mul_nonneg h0 d.v0a, by omega⟩
/-- The first guess. -/
theorem init (d : Digit u v v1 v0 u1 Q) : Q ≤ u / v1 ∧ u / v1 ≤ 4294967297 ∧ u / v1 * v1 + (u - u / v1 * v1) = u ∧ 0 ≤ u - u / v1 * v1 ∧ u - u / v1 * v1 < v1 := by
  have h1 := d.v1a
  have hd := Int.mul_ediv_add_emod u v1
  have hm := Int.emod_nonneg u (show v1 ≠ 0 by omega)
  have hl := Int.emod_lt_of_pos u (show 0 < v1 by omega)
  rw [Int.mul_comm] at hd
  refine ⟨?_, ?_, by omega, by omega, by omega⟩
  · rw [Int.le_ediv_iff_mul_le (by omega)]
    have h := d.qa; rw [d.hv, Int.mul_add, ← Int.mul_assoc] at h
    have := Int.mul_nonneg d.q0 d.v0a; have := d.u1b
    omega
  · have : u / v1 < 4294967298 := by
      rw [Int.ediv_lt_iff_lt_mul (by omega)]
      have := d.ub; have := d.hv; have := d.v0b; omega
    omega
end Digit
/-- What is left behind a digit, modulo 2^64. -/
theorem rest_wrap {u v u1 Q : Int} (h0 : Q * v ≤ u * 4294967296 + u1) (h1 : u * 4294967296 + u1 < Q * v + v) (hv : v < 18446744073709551616) :
    IntKind.u64.wrap (IntKind.u64.wrap (IntKind.u64.wrap (u * 4294967296) + u1) - IntKind.u64.wrap (Q * v)) = u * 4294967296 + u1 - Q * v := by
  simp only [IntKind.wrap_u64]
  generalize Q * v = z at *
  omega
theorem div_l1 {u v v1 v0 u1 Q q1 s : Int} (d : Digit u v v1 v0 u1 Q) (hv : v < 18446744073709551616) (hs : 0 ≤ s) :
    ∀ (n k : Nat) (q r : Int), q * v1 + r = u → Q ≤ q → q ≤ 4294967297 → 0 ≤ r → r < 4294967296 → 4294967296 - r ≤ n * 2147483648 → 2 * n + 2 ≤ k →
    bits_Div64.l1 k v s v1 v0 u1 q1 r u q = some (IntKind.u64.wrap (IntKind.u64.wrap (q1 * 4294967296) + Q), shr .u64 (u * 4294967296 + u1 - Q * v) s) := by
  intro n
  induction n with
  | zero => intro k q r h hQ hq hr0 hr1 hn hk; omega
  | succ n ih =>
    intro k q r h hQ hq hr0 hr1 hn hk
    obtain ⟨k, rfl⟩ : ∃ m, k = m + 2 := ⟨k - 2, by omega⟩
    have hQ0 := d.q0; have h1a := d.v1a; have h1b := d.v1b; have hua := d.u1a; have hub := d.u1b
    have key : ∀ b : Bool, (b = true ↔ (4294967296 ≤ q ∨ 4294967296 * r + u1 < q * v0)) →
        bits_Div64.j4 (k + 1) v s v1 v0 u1 q1 r u q b = some (IntKind.u64.wrap (IntKind.u64.wrap (q1 * 4294967296) + Q), shr .u64 (u * 4294967296 + u1 - Q * v) s) := by
      intro b hb
      simp only [bits_Div64.j4]
      cases b with
      | true =>
        have ht := hb.mp rfl
        have hy := d.yes h ht
        rw [if_pos rfl, u64_id (n := r + v1) (by omega) (by omega), u64_id (n := q - 1) (by omega) (by omega)]
        have h' : (q - 1) * v1 + (r + v1) = u := by rw [Int.sub_mul, Int.one_mul]; omega
        by_cases hr' : 4294967296 ≤ r + v1
        · rw [if_pos hr', if_pos hs, d.out h' hy (by omega) hr', rest_wrap d.qa d.qb hv]
        · rw [if_neg hr']
          exact ih k (q - 1) (r + v1) h' hy (by omega) (by omega) (by omega) (by omega) (by omega)
      | false =>
        have ht : ¬ (4294967296 ≤ q ∨ 4294967296 * r + u1 < q * v0) := fun h => by have := hb.mpr h; cases this
        have e := d.no h hQ (by omega)
        rw [if_neg (by simp), if_pos hs, e, rest_wrap d.qa d.qb hv]
    simp only [bits_Div64.l1]
    by_cases hq' : 4294967296 ≤ q
    · rw [if_pos hq']; exact key true ⟨fun _ => .inl hq', fun _ => rfl⟩
    · rw [if_neg hq']
      have hsm := d.small (q := q) (by omega) (by omega)
      refine key _ ?_
      rw [u64_id (n := q * v0) hsm.1 hsm.2, u64_id (n := 4294967296 * r) (by omega) (by omega), u64_id (n := 4294967296 * r + u1) (by omega) (by omega), decide_eq_true_eq]
      omega
theorem div_j2 {v v1 v0 u1 Q s u2 u0 Q1 : Int} (d1 : Digit u2 v v1 v0 u1 Q1) (d : Digit (u2 * 4294967296 + u1 - Q1 * v) v v1 v0 u0 Q) (hv : v < 18446744073709551616) (hs : 0 ≤ s) (k : Nat) (hk : 7 ≤ k) :
    bits_Div64.j2 k v s v1 v0 u2 u1 u0 Q1 = some (IntKind.u64.wrap (IntKind.u64.wrap (Q1 * 4294967296) + Q), shr .u64 ((u2 * 4294967296 + u1 - Q1 * v) * 4294967296 + u0 - Q * v) s) := by
  obtain ⟨k, rfl⟩ : ∃ m, k = m + 1 := ⟨k - 1, by omega⟩
  have h1 := d.v1a; have h2 := d.v1b; have hua := d.ua; have hub := d.ub
  simp only [bits_Div64.j2]
  rw [if_neg (by omega), rest_wrap d1.qa d1.qb hv]
  generalize hu : u2 * 4294967296 + u1 - Q1 * v = u at *
  obtain ⟨i1, i2, i3, i4, i5⟩ := d.init
  have h0 : 0 ≤ u / v1 := Int.ediv_nonneg hua (by omega)
  rw [Int.tdiv_eq_ediv_of_nonneg hua, u64_id (n := u / v1) h0 (by omega)]
  have e : IntKind.u64.wrap (u - IntKind.u64.wrap (u / v1 * v1)) = u - u / v1 * v1 := by
    have : 0 ≤ u / v1 * v1 := Int.mul_nonneg h0 (by omega)
    rw [u64_id (n := u / v1 * v1) this (by omega), u64_id (by omega) (by omega)]
  rw [e]
  exact div_l1 d hv hs 2 k (u / v1) (u - u / v1 * v1) i3 i1 i2 i4 (by omega) (by omega) (by omega)
theorem div_l0 {u v v1 v0 u1 u0 Q Q0 s : Int} (d : Digit u v v1 v0 u1 Q) (d0 : Digit (u * 4294967296 + u1 - Q * v) v v1 v0 u0 Q0) (hv : v < 18446744073709551616) (hs : 0 ≤ s) :
    ∀ (n k : Nat) (q r : Int), q * v1 + r = u → Q ≤ q → q ≤ 4294967297 → 0 ≤ r → r < 4294967296 → 4294967296 - r ≤ n * 2147483648 → 2 * n + 9 ≤ k →
    bits_Div64.l0 k v s v1 v0 u u1 u0 q r = some (IntKind.u64.wrap (IntKind.u64.wrap (Q * 4294967296) + Q0), shr .u64 ((u * 4294967296 + u1 - Q * v) * 4294967296 + u0 - Q0 * v) s) := by
  intro n
  induction n with
  | zero => intro k q r h hQ hq hr0 hr1 hn hk; omega
  | succ n ih =>
    intro k q r h hQ hq hr0 hr1 hn hk
    obtain ⟨k, rfl⟩ : ∃ m, k = m + 2 := ⟨k - 2, by omega⟩
    have hQ0 := d.q0; have h1a := d.v1a; have h1b := d.v1b; have hua := d.u1a; have hub := d.u1b
    have key : ∀ b : Bool, (b = true ↔ (4294967296 ≤ q ∨ 4294967296 * r + u1 < q * v0)) →
        bits_Div64.j1 (k + 1) v s v1 v0 u u1 u0 q r b = some (IntKind.u64.wrap (IntKind.u64.wrap (Q * 4294967296) + Q0), shr .u64 ((u * 4294967296 + u1 - Q * v) * 4294967296 + u0 - Q0 * v) s) := by
      intro b hb
      simp only [bits_Div64.j1]
      cases b with
      | true =>
        have ht := hb.mp rfl
        have hy := d.yes h ht
        rw [if_pos rfl, u64_id (n := r + v1) (by omega) (by omega), u64_id (n := q - 1) (by omega) (by omega)]
        have h' : (q - 1) * v1 + (r + v1) = u := by rw [Int.sub_mul, Int.one_mul]; omega
        by_cases hr' : 4294967296 ≤ r + v1
        · rw [if_pos hr', d.out h' hy (by omega) hr']
          exact div_j2 d d0 hv hs k (by omega)
        · rw [if_neg hr']
          exact ih k (q - 1) (r + v1) h' hy (by omega) (by omega) (by omega) (by omega) (by omega)
      | false =>
        have ht : ¬ (4294967296 ≤ q ∨ 4294967296 * r + u1 < q * v0) := fun h => by have := hb.mpr h; cases this
        have e := d.no h hQ (by omega)
        rw [if_neg (by simp), e]
        exact div_j2 d d0 hv hs k (by omega)
    simp only [bits_Div64.l0]
    by_cases hq' : 4294967296 ≤ q
    · rw [if_pos hq']; exact key true ⟨fun _ => .inl hq', fun _ => rfl⟩
    · rw [if_neg hq']
      have hsm := d.small (q := q) (by omega) (by omega)
      refine key _ ?_
      rw [u64_id (n := q * v0) hsm.1 hsm.2, u64_id (n := 4294967296 * r) (by omega) (by omega), u64_id (n := 4294967296 * r + u1) (by omega) (by omega), decide_eq_true_eq]
      omega
theorem bitLen_low : ∀ (f x : Nat), x ≠ 0 → x < 2 ^ f → 2 ^ (Lib.bitLenAux f x - 1) ≤ x ∧ x < 2 ^ Lib.bitLenAux f x ∧ 1 ≤ Lib.bitLenAux f x ∧ Lib.bitLenAux f x ≤ f := by
  intro f
  induction f with
  | zero => intro x h0 h1; simp at h1; omega
  | succ f ih =>
    intro x h0 h1
    simp only [Lib.bitLenAux]
    rw [if_neg h0]
    by_cases hx : x / 2 = 0
    · have : x = 1 := by omega
      subst this
      have : Lib.bitLenAux f (1 / 2) = 0 := by cases f <;> simp [Lib.bitLenAux]
      rw [this]; simp
    · obtain ⟨a, b, c, e⟩ := ih (x / 2) hx (by rw [Nat.pow_succ] at h1; omega)
      have e1 : 1 + Lib.bitLenAux f (x / 2) - 1 = (Lib.bitLenAux f (x / 2) - 1) + 1 := by omega
      refine ⟨?_, ?_, by omega, by omega⟩
      · rw [e1, Nat.pow_succ]; omega
      · rw [Nat.add_comm 1, Nat.pow_succ]; omega
theorem bitLen_bounds (x : Nat) (h0 : x ≠ 0) (h1 : x < 18446744073709551616) : 2 ^ (Lib.bitLen x - 1) ≤ x ∧ x < 2 ^ Lib.bitLen x ∧ 1 ≤ Lib.bitLen x ∧ Lib.bitLen x ≤ 64 :=
  bitLen_low 64 x h0 h1
theorem or_add (p : Nat) (a b : Nat) (hb : b < 2 ^ p) : (a * 2 ^ p) ||| b = a * 2 ^ p + b := by
  rw [Nat.mul_comm, Nat.two_pow_add_eq_or_of_lt hb]
/-- The shift: how far, what the numbers become. -/
theorem div_setup (hi lo y : Nat) (hy : hi < y) (hy1 : y < 18446744073709551616) (hl : lo < 18446744073709551616) :
    ∃ s : Nat, s < 64 ∧ 64 - Lib.bitLen y = s ∧ 9223372036854775808 ≤ y * 2 ^ s ∧ y * 2 ^ s < 18446744073709551616 ∧ hi * 2 ^ s < 18446744073709551616 ∧
      lo / 2 ^ (64 - s) < 2 ^ s ∧ (hi * 18446744073709551616 + lo) * 2 ^ s = (hi * 2 ^ s + lo / 2 ^ (64 - s)) * 18446744073709551616 + lo * 2 ^ s % 18446744073709551616 := by
  obtain ⟨h1, h2, h3, h4⟩ := bitLen_bounds y (by omega) hy1
  generalize hL : Lib.bitLen y = L at *
  refine ⟨64 - L, by omega, rfl, ?_, ?_, ?_, ?_, ?_⟩
  · have : (9223372036854775808 : Nat) = 2 ^ (L - 1) * 2 ^ (64 - L) := by rw [← Nat.pow_add, show L - 1 + (64 - L) = 63 by omega]
    rw [this]; exact Nat.mul_le_mul_right _ h1
  · have : (18446744073709551616 : Nat) = 2 ^ L * 2 ^ (64 - L) := by rw [← Nat.pow_add, show L + (64 - L) = 64 by omega]
    rw [this]; exact Nat.mul_lt_mul_of_pos_right h2 (Nat.two_pow_pos _)
  · have : (18446744073709551616 : Nat) = 2 ^ L * 2 ^ (64 - L) := by rw [← Nat.pow_add, show L + (64 - L) = 64 by omega]
    rw [this]; exact Nat.mul_lt_mul_of_pos_right (by omega) (Nat.two_pow_pos _)
  · rw [show 64 - (64 - L) = L by omega, Nat.div_lt_iff_lt_mul (Nat.two_pow_pos _), ← Nat.pow_add, show 64 - L + L = 64 by omega]; exact hl
  · rw [show 64 - (64 - L) = L by omega]
    have hp : (18446744073709551616 : Nat) = 2 ^ L * 2 ^ (64 - L) := by rw [← Nat.pow_add, show L + (64 - L) = 64 by omega]
    have h := Nat.div_add_mod (lo * 2 ^ (64 - L)) 18446744073709551616
    have e : lo * 2 ^ (64 - L) / 18446744073709551616 = lo / 2 ^ L := by
      rw [hp]; exact Nat.mul_div_mul_right _ _ (Nat.two_pow_pos _)
    rw [e] at h
    rw [Nat.add_mul, Nat.add_mul, Nat.mul_assoc, Nat.mul_comm 18446744073709551616 (2 ^ (64 - L)), ← Nat.mul_assoc]
    omega
theorem shl_nat (x s : Nat) (hs : s < 64) : shl .u64 (x : Int) (s : Int) = ((x * 2 ^ s % 18446744073709551616 : Nat) : Int) := by
  unfold shl
  rw [IntKind.wrap_u64, show min ((s : Int).toNat) (IntKind.u64.bits) = s by simp [IntKind.bits]; omega]
  simp
theorem shr_nat (x s : Nat) (hs : s ≤ 64) : shr .u64 (x : Int) (s : Int) = ((x / 2 ^ s : Nat) : Int) := by
  unfold shr
  rw [show min ((s : Int).toNat) (IntKind.u64.bits) = s by simp [IntKind.bits]; omega]
  simp
/-- A digit, out of the division itself. -/
theorem Digit.of {u v v1 v0 u1 : Int} (hv : v = v1 * 4294967296 + v0) (v0a : 0 ≤ v0) (v0b : v0 < 4294967296) (v1a : 2147483648 ≤ v1) (v1b : v1 < 4294967296) (ua : 0 ≤ u) (ub : u < v) (u1a : 0 ≤ u1) (u1b : u1 < 4294967296) :
    Digit u v v1 v0 u1 ((u * 4294967296 + u1) / v) := by
  have h := Int.mul_ediv_add_emod (u * 4294967296 + u1) v
  have hm := Int.emod_nonneg (u * 4294967296 + u1) (show v ≠ 0 by omega)
  have hl := Int.emod_lt_of_pos (u * 4294967296 + u1) (show 0 < v by omega)
  rw [Int.mul_comm] at h
  exact ⟨hv, v0a, v0b, v1a, v1b, ua, ub, u1a, u1b, by omega, by omega⟩
/-- math/bits.Div64: the quotient, and what is left over. -/
theorem div64_eq (hi lo y : Nat) (hy : hi < y) (hy1 : y < 18446744073709551616) (hl : lo < 18446744073709551616) (k : Nat) (hk : 20 ≤ k) :
    bits_Div64.f k hi lo y = some ((((hi * 18446744073709551616 + lo) / y : Nat) : Int), (((hi * 18446744073709551616 + lo) % y : Nat) : Int)) := by
  unfold bits_Div64.f
  rw [if_neg (by omega), if_neg (by omega)]
  by_cases h0 : hi = 0
  · subst h0
    rw [if_pos (show ((0 : Nat) : Int) = 0 from rfl), Int.tdiv_eq_ediv_of_nonneg (by omega), Int.tmod_eq_emod_of_nonneg (by omega)]
    have : lo / y ≤ lo := Nat.div_le_self _ _
    rw [Nat.zero_mul, Nat.zero_add, ← Int.natCast_ediv, ← Int.natCast_emod]
    generalize lo / y = z at *
    rw [u64_id (by omega) (by omega)]
  · rw [if_neg (by omega)]
    obtain ⟨s, hs, hL, a1, a2, a3, a4, a5⟩ := div_setup hi lo y hy hy1 hl
    obtain ⟨_, _, l1, l2⟩ := bitLen_bounds y (by omega) hy1
    have e0 : bits_LeadingZeros64.f (y : Int) = some (s : Int) := by
      unfold bits_LeadingZeros64.f bits_Len64.f
      rw [if_pos (by omega)]
      simp only [Option.bind_some, Int.toNat_natCast]
      rw [w64_id (by omega) (by omega)]
      congr 1; omega
    rw [e0]
    simp only [Option.bind_some]
    rw [u64_id (n := (s : Int)) (by omega) (by omega), if_pos (by omega), u64_id (n := 64 - (s : Int)) (by omega) (by omega), if_pos (by omega)]
    have e1 : (64 : Int) - (s : Int) = ((64 - s : Nat) : Int) := by omega
    rw [e1, shl_nat y s hs, shl_nat hi s hs, shl_nat lo s hs, shr_nat lo (64 - s) (by omega), Nat.mod_eq_of_lt a2, Nat.mod_eq_of_lt a3]
    rw [u64_or_nat _ _ a3 (by have : 2 ^ s ≤ 2 ^ 63 := Nat.pow_le_pow_right (by omega) (by omega); omega), or_add s hi _ a4]
    generalize hV : y * 2 ^ s = V at *
    generalize hU : hi * 2 ^ s + lo / 2 ^ (64 - s) = U at *
    generalize hR : lo * 2 ^ s % 18446744073709551616 = R at *
    have hR1 : R < 18446744073709551616 := by omega
    have hUV : U < V := by
      have h1 : (hi + 1) * 2 ^ s ≤ V := by rw [← hV]; exact Nat.mul_le_mul_right _ hy
      rw [Nat.add_mul, Nat.one_mul] at h1
      omega
    rw [and_low32 _ (by omega) (by omega), and_low32 _ (by omega) (by omega)]
    rw [if_neg (by omega)]
    have d1 := Digit.of (u := U) (v := V) (v1 := (V : Int) / 4294967296) (v0 := (V : Int) % 4294967296) (u1 := (R : Int) / 4294967296) (by omega) (by omega) (by omega) (by omega) (by omega) (by omega) (by omega) (by omega) (by omega)
    generalize hQ1 : ((U : Int) * 4294967296 + (R : Int) / 4294967296) / (V : Int) = Q1 at *
    have b1 := d1.qa
    have b2 := d1.qb
    have d0 := Digit.of (u := (U : Int) * 4294967296 + (R : Int) / 4294967296 - Q1 * V) (v := V) (v1 := (V : Int) / 4294967296) (v0 := (V : Int) % 4294967296) (u1 := (R : Int) % 4294967296) (by omega) (by omega) (by omega) (by omega) (by omega) (by omega) (by omega) (by omega) (by omega)
    generalize hQ0 : (((U : Int) * 4294967296 + (R : Int) / 4294967296 - Q1 * V) * 4294967296 + (R : Int) % 4294967296) / (V : Int) = Q0 at *
    obtain ⟨i1, i2, i3, i4, i5⟩ := d1.init
    have hq := Int.ediv_nonneg (a := (U : Int)) (b := (V : Int) / 4294967296) (by omega) (by omega)
    have hq2 := Int.mul_nonneg hq (show 0 ≤ (V : Int) / 4294967296 by omega)
    rw [Int.tdiv_eq_ediv_of_nonneg (by omega), u64_id (n := (U : Int) / ((V : Int) / 4294967296)) hq (by omega),
      u64_id (n := (U : Int) / ((V : Int) / 4294967296) * ((V : Int) / 4294967296)) hq2 (by omega), u64_id (n := (U : Int) - (U : Int) / ((V : Int) / 4294967296) * ((V : Int) / 4294967296)) (by omega) (by omega)]
    rw [div_l0 d1 d0 (by omega) (by omega) 2 k _ _ i3 i1 i2 i4 (by omega) (by omega) (by omega)]
    have c1 := d0.qa
    have c2 := d0.qb
    have c3 := d1.q0
    have c4 := d1.qB
    have c5 := d0.q0
    have c6 := d0.qB
    rw [u64_id (n := Q1 * 4294967296) (by omega) (by omega), u64_id (by omega) (by omega)]
    -- what it comes to
    obtain ⟨q, hq'⟩ := Int.eq_ofNat_of_zero_le (show 0 ≤ Q1 * 4294967296 + Q0 by omega)
    obtain ⟨r, hr'⟩ := Int.eq_ofNat_of_zero_le (show 0 ≤ ((U : Int) * 4294967296 + (R : Int) / 4294967296 - Q1 * V) * 4294967296 + (R : Int) % 4294967296 - Q0 * V by omega)
    rw [hr', shr_nat r s (by omega), hq']
    have hrV : r < V := by omega
    have hsum : (hi * 18446744073709551616 + lo) * 2 ^ s = q * V + r := by
      rw [a5]
      have hqV : (q : Int) * V = Q1 * V * 4294967296 + Q0 * V := by
        rw [← hq', Int.add_mul, Int.mul_assoc, Int.mul_comm 4294967296, ← Int.mul_assoc]
      have : ((U * 18446744073709551616 + R : Nat) : Int) = ((q * V + r : Nat) : Int) := by
        rw [Int.natCast_add, Int.natCast_add, Int.natCast_mul q V, hqV]
        omega
      exact Int.natCast_inj.mp this
    obtain ⟨M, hM⟩ : ∃ M, M = hi * 18446744073709551616 + lo := ⟨_, rfl⟩
    rw [← hM] at hsum ⊢
    have hp := Nat.two_pow_pos s
    have hdiv : M / y = q := by
      have : M * 2 ^ s / (y * 2 ^ s) = q := by
        rw [hsum, hV]
        rw [Nat.mul_comm q V, Nat.mul_add_div (by omega), Nat.div_eq_of_lt hrV]; rfl
      rwa [Nat.mul_div_mul_right _ _ hp] at this
    have hmod : M % y = r / 2 ^ s := by
      have : M * 2 ^ s % (y * 2 ^ s) = r := by
        rw [hsum, hV, Nat.mul_comm q V, Nat.mul_add_mod, Nat.mod_eq_of_lt hrV]
      rw [Nat.mul_mod_mul_right] at this
      rw [← this, Nat.mul_div_cancel _ hp]
    rw [hdiv, hmod]
end Go.Proofs.Ytgmegmhioiljcaa.P
namespace Go.Proofs.Ytgmegmhioiljcaa.P
open Go.RowKit Go.Proofs.YtgmegmhioiljcaaW.PrintWords Go.Proofs.YtgmegmhioiljcaaW.PrintLast Go.Proofs.YtgmegmhioiljcaaW.PrintMore
/-- Is it a number of 64 bits? -/
def I64 (x : Int) : Prop := -9223372036854775808 ≤ x ∧ x ≤ 9223372036854775807
instance (x : Int) : Decidable (I64 x) := by unfold I64; infer_instance
/-- A number and true, or 0 and false. -/
def num (x : Int) : Int × Bool := if I64 x then (x, true) else (0, false)
theorem num_yes {x : Int} (h : I64 x) : num x = (x, true) := by unfold num; rw [if_pos h]
theorem num_no {x : Int} (h : ¬ I64 x) : num x = (0, false) := by unfold num; rw [if_neg h]
/-- The floor of a quotient. -/
def fl (p c : Int) : Int := if 0 < c then p / c else (-p) / (-c)
theorem fl_spec (p : Int) {c : Int} (hc : c ≠ 0) : ∃ m, fl p c * c + m = p ∧ (0 < c → 0 ≤ m ∧ m < c) ∧ (c < 0 → c < m ∧ m ≤ 0) := by
  unfold fl
  by_cases h : 0 < c
  · rw [if_pos h]
    refine ⟨p % c, Int.ediv_mul_add_emod p c, fun _ => ⟨Int.emod_nonneg _ hc, Int.emod_lt_of_pos _ h⟩, fun h' => by omega⟩
  · rw [if_neg h]
    have e := Int.ediv_mul_add_emod (-p) (-c)
    rw [Int.mul_neg] at e
    have h1 := Int.emod_nonneg (-p) (show -c ≠ 0 by omega)
    have h2 := Int.emod_lt_of_pos (-p) (show 0 < -c by omega)
    exact ⟨-((-p) % (-c)), by omega, fun h' => by omega, fun _ => by omega⟩
theorem fl_unique {p c f m : Int} (hc : c ≠ 0) (h : f * c + m = p) (h1 : 0 < c → 0 ≤ m ∧ m < c) (h2 : c < 0 → c < m ∧ m ≤ 0) : fl p c = f := by
  obtain ⟨m', e, e1, e2⟩ := fl_spec p hc
  have key : (fl p c - f) * c = m - m' := by rw [Int.sub_mul]; omega
  rcases Int.lt_or_gt_of_ne hc with hn | hp
  · have a := e2 hn; have b := h2 hn
    have k1 : (fl p c - f) * c < (-1) * c := by omega
    have k2 : 1 * c < (fl p c - f) * c := by omega
    have l1 : -1 < fl p c - f := by
      rcases Int.lt_or_le (-1) (fl p c - f) with h | h
      · exact h
      · have := Int.mul_le_mul_of_nonpos_right h (Int.le_of_lt hn); omega
    have l2 : fl p c - f < 1 := by
      rcases Int.lt_or_le (fl p c - f) 1 with h | h
      · exact h
      · have := Int.mul_le_mul_of_nonpos_right h (Int.le_of_lt hn); omega
    omega
  · have a := e1 hp; have b := h1 hp
    have l1 : -1 < fl p c - f := lt_of_mul hp (by omega)
    have l2 : fl p c - f < 1 := lt_of_mul hp (by omega)
    omega
theorem mul_bound {a b : Int} {L M : Nat} (ha : a.natAbs ≤ L) (hb : b.natAbs ≤ M) : (a * b).natAbs ≤ L * M := by
  rw [Int.natAbs_mul]; exact Nat.mul_le_mul ha hb
theorem prod_bound {a b : Int} (ha : I64 a) (hb : I64 b) : (a * b).natAbs ≤ 85070591730234615865843651857942052864 := by
  have := mul_bound (a := a) (b := b) (L := 9223372036854775808) (M := 9223372036854775808) (by unfold I64 at ha; omega) (by unfold I64 at hb; omega)
  exact this
theorem times_eq {a b : Int} (ha : I64 a) (hb : I64 b) : fix_times.f a b = some (a * b / 18446744073709551616, a * b % 18446744073709551616) := by
  have hP := prod_bound ha hb
  unfold I64 at ha hb
  have key : ∀ (A B : Int), (A = a ∨ A = a + 18446744073709551616) → (B = b ∨ B = b + 18446744073709551616) → 0 ≤ A → A < 18446744073709551616 → 0 ≤ B → B < 18446744073709551616 →
      A * B / 18446744073709551616 = a * b / 18446744073709551616 + (if A = a then 0 else b) + (if B = b then 0 else a) + (if A = a ∨ B = b then 0 else 18446744073709551616) ∧ A * B % 18446744073709551616 = a * b % 18446744073709551616 := by
    intro A B h1 h2 _ _ _ _
    rcases h1 with rfl | rfl <;> rcases h2 with rfl | rfl
    · simp
    · rw [Int.mul_add, if_pos rfl, if_neg (by omega), if_pos (by simp)]
      generalize A * b = z at *
      omega
    · rw [Int.add_mul, if_neg (by omega), if_pos rfl, if_pos (by simp)]
      generalize a * B = z at *
      omega
    · rw [Int.add_mul, Int.mul_add, Int.mul_add, if_neg (by omega), if_neg (by omega), if_neg (by omega)]
      generalize a * b = z at *
      omega
  unfold fix_times.f bits_Mul64.f
  have wa : IntKind.u64.wrap a = a ∨ IntKind.u64.wrap a = a + 18446744073709551616 := by rw [IntKind.wrap_u64]; omega
  have wb : IntKind.u64.wrap b = b ∨ IntKind.u64.wrap b = b + 18446744073709551616 := by rw [IntKind.wrap_u64]; omega
  have ra : 0 ≤ IntKind.u64.wrap a ∧ IntKind.u64.wrap a < 18446744073709551616 := by rw [IntKind.wrap_u64]; omega
  have rb : 0 ≤ IntKind.u64.wrap b ∧ IntKind.u64.wrap b < 18446744073709551616 := by rw [IntKind.wrap_u64]; omega
  generalize hA : IntKind.u64.wrap a = A at *
  generalize hB : IntKind.u64.wrap b = B at *
  obtain ⟨k1, k2⟩ := key A B wa wb ra.1 ra.2 rb.1 rb.2
  rw [if_pos (by omega)]
  simp only [Option.bind_some]
  rw [k1, k2]
  generalize a * b = P at *
  have hq : -4611686018427387904 ≤ P / 18446744073709551616 ∧ P / 18446744073709551616 ≤ 4611686018427387904 := by omega
  generalize hr : P % 18446744073709551616 = r at *
  generalize P / 18446744073709551616 = q at *
  clear key k1 k2
  by_cases h1 : a < 0
  · have : A = a + 18446744073709551616 := by omega
    rw [if_pos h1, if_neg (show ¬ A = a by omega)]
    by_cases h2 : b < 0
    · rw [if_pos h2, if_neg (show ¬ B = b by omega), if_neg (by omega)]
      congr 2; simp only [IntKind.wrap_u64, wrap64]; omega
    · rw [if_neg h2, if_pos (show B = b by omega), if_pos (by omega)]
      congr 2; simp only [IntKind.wrap_u64, wrap64]; omega
  · rw [if_neg h1, if_pos (show A = a by omega)]
    by_cases h2 : b < 0
    · rw [if_pos h2, if_neg (show ¬ B = b by omega), if_pos (by omega)]
      congr 2; simp only [IntKind.wrap_u64, wrap64]; omega
    · rw [if_neg h2, if_pos (show B = b by omega), if_pos (by omega)]
      congr 2; simp only [wrap64]; omega
theorem abs_eq {P : Int} (hP : P.natAbs ≤ 85070591730234615865843651857942052864) :
    fix_wide_abs.f (P / 18446744073709551616) (P % 18446744073709551616) = some (((P.natAbs / 18446744073709551616 : Nat) : Int), ((P.natAbs % 18446744073709551616 : Nat) : Int), decide (P < 0)) := by
  unfold fix_wide_abs.f
  by_cases h : P < 0
  · rw [if_neg (by omega), decide_eq_true h]
    have e1 : sub64d 0 (P % 18446744073709551616) 0 = ((P.natAbs % 18446744073709551616 : Nat) : Int) := by
      unfold sub64d; simp only [Int.toNat_zero]; congr 1; omega
    have e2 : sub64b 0 (P % 18446744073709551616) 0 = if P % 18446744073709551616 = 0 then 0 else 1 := by
      unfold sub64b; simp only [Int.toNat_zero]
      by_cases h0 : P % 18446744073709551616 = 0
      · rw [if_pos h0, if_neg (by omega)]; rfl
      · rw [if_neg h0, if_pos (by omega)]; rfl
    rw [e1, e2]
    have e3 : sub64d 0 (IntKind.u64.wrap (P / 18446744073709551616)) (if P % 18446744073709551616 = 0 then 0 else 1) = ((P.natAbs / 18446744073709551616 : Nat) : Int) := by
      rw [IntKind.wrap_u64]
      unfold sub64d; simp only [Int.toNat_zero]
      by_cases h0 : P % 18446744073709551616 = 0
      · rw [if_pos h0]; simp only [Int.toNat_zero]; congr 1; omega
      · rw [if_neg h0]; simp only [Int.toNat_one]; congr 1; omega
    rw [e3]
  · rw [if_pos (by omega), decide_eq_false h, u64_id (by omega) (by omega)]
    congr 2
    · omega
    · congr 1; omega
theorem size_eq {a : Int} (ha : I64 a) : fix_size.f a = some (a.natAbs : Int) := by
  unfold fix_size.f; unfold I64 at ha
  by_cases h : a < 0
  · rw [if_pos h]; congr 1; simp only [IntKind.wrap_u64]; omega
  · rw [if_neg h]; congr 1; simp only [IntKind.wrap_u64]; omega
/-- The answer, out of the sizes' quotient. -/
theorem fl_abs {P c : Int} (hc : c ≠ 0) :
    fl P c = if P < 0 ↔ c < 0 then ((P.natAbs / c.natAbs : Nat) : Int) else if P.natAbs % c.natAbs = 0 then -((P.natAbs / c.natAbs : Nat) : Int) else -((P.natAbs / c.natAbs : Nat) : Int) - 1 := by
  have hd := Nat.div_add_mod P.natAbs c.natAbs
  have hl := Nat.mod_lt P.natAbs (show 0 < c.natAbs by omega)
  generalize hq : P.natAbs / c.natAbs = q at *
  generalize hr : P.natAbs % c.natAbs = r at *
  have hd' : ((c.natAbs : Int)) * q + r = (P.natAbs : Int) := by rw [← Int.natCast_mul]; omega
  by_cases hn : c < 0
  · have ec : (c.natAbs : Int) = -c := by omega
    rw [ec, Int.neg_mul] at hd'
    by_cases hP : P < 0
    · rw [if_pos (by omega)]
      exact fl_unique (m := -r) hc (by rw [Int.mul_comm]; omega) (fun h => by omega) (fun _ => by omega)
    · rw [if_neg (by omega)]
      by_cases h0 : r = 0
      · rw [if_pos h0]
        exact fl_unique (m := 0) hc (by rw [Int.neg_mul, Int.mul_comm]; omega) (fun h => by omega) (fun _ => by omega)
      · rw [if_neg h0]
        exact fl_unique (m := c + r) hc (by rw [Int.sub_mul, Int.neg_mul, Int.one_mul, Int.mul_comm]; omega) (fun h => by omega) (fun _ => by omega)
  · have ec : (c.natAbs : Int) = c := by omega
    rw [ec] at hd'
    by_cases hP : P < 0
    · rw [if_neg (by omega)]
      by_cases h0 : r = 0
      · rw [if_pos h0]
        exact fl_unique (m := 0) hc (by rw [Int.neg_mul, Int.mul_comm]; omega) (fun _ => by omega) (fun h => by omega)
      · rw [if_neg h0]
        exact fl_unique (m := c - r) hc (by rw [Int.sub_mul, Int.neg_mul, Int.one_mul, Int.mul_comm]; omega) (fun _ => by omega) (fun h => by omega)
    · rw [if_pos (by omega)]
      exact fl_unique (m := r) hc (by rw [Int.mul_comm]; omega) (fun _ => by omega) (fun h => by omega)
theorem narrowed_f (q : Int) : fix_narrowed.f q false = some (decide (q ≤ 9223372036854775807)) := by
  simp [fix_narrowed.f]
theorem narrowed_t (q : Int) : fix_narrowed.f q true = some (decide (q ≤ 9223372036854775808)) := by
  simp only [fix_narrowed.f, if_true]
theorem up_wrap {q : Nat} (h1 : ¬ IntKind.u64.wrap ((q : Int) + 1) = 0) (hq : q < 18446744073709551616) : IntKind.u64.wrap ((q : Int) + 1) = q + 1 := by
  rw [IntKind.wrap_u64] at h1 ⊢; omega
theorem up_over {q : Nat} (h1 : IntKind.u64.wrap ((q : Int) + 1) = 0) : ¬ I64 (-(q : Int) - 1) := by
  rw [IntKind.wrap_u64] at h1; unfold I64; omega
theorem down_wrap {q : Int} (h0 : 0 ≤ q) (h : q ≤ 9223372036854775808) : wrap64 (IntKind.u64.wrap (-q)) = -q := by
  simp only [IntKind.wrap_u64, wrap64]; omega
theorem muldiv_t (q r : Int) (k : Nat) : fix_MulDiv.j0 (k + 1) q r true = if q ≤ 9223372036854775807 then some (wrap64 q, true) else some (0, false) := by
  simp [fix_MulDiv.j0, narrowed_f]
theorem muldiv_f0 (q : Int) (k : Nat) : fix_MulDiv.j0 (k + 1) q 0 false = if q ≤ 9223372036854775808 then some (wrap64 (IntKind.u64.wrap (-q)), true) else some (0, false) := by
  simp [fix_MulDiv.j0, narrowed_t]
theorem muldiv_f (q r : Int) (h : 0 < r) (k : Nat) : fix_MulDiv.j0 (k + 1) q r false = if IntKind.u64.wrap (q + 1) = 0 then some (0, false) else if IntKind.u64.wrap (q + 1) ≤ 9223372036854775808 then some (wrap64 (IntKind.u64.wrap (-(IntKind.u64.wrap (q + 1)))), true) else some (0, false) := by
  simp only [fix_MulDiv.j0, narrowed_t, Option.bind_some, decide_eq_true_eq]
  rw [if_neg (by simp), if_pos h]
theorem muldiv_up (q r : Nat) (hr : 0 < r) (hq : q < 18446744073709551616) (k : Nat) : fix_MulDiv.j0 (k + 1) q r false = some (num (-(q : Int) - 1)) := by
  rw [muldiv_f _ _ (by omega)]
  by_cases h1 : IntKind.u64.wrap ((q : Int) + 1) = 0
  · rw [if_pos h1, num_no (up_over h1)]
  · rw [if_neg h1]
    have e := up_wrap h1 hq
    generalize IntKind.u64.wrap ((q : Int) + 1) = z at *
    subst e
    by_cases h : (q : Int) + 1 ≤ 9223372036854775808
    · rw [if_pos h, down_wrap (by omega) h, num_yes (by unfold I64; omega), Int.neg_add]; rfl
    · rw [if_neg h, num_no (by unfold I64; omega)]
theorem muldiv_j0 (q r : Nat) (hq : q < 18446744073709551616) (b : Bool) (k : Nat) :
    fix_MulDiv.j0 (k + 1) q r b = some (num (if b then (q : Int) else if r = 0 then -(q : Int) else -(q : Int) - 1)) := by
  cases b with
  | true =>
    rw [muldiv_t, if_pos rfl]
    by_cases h : (q : Int) ≤ 9223372036854775807
    · rw [if_pos h, w64_id (by omega) (by omega), num_yes (by unfold I64; omega)]
    · rw [if_neg h, num_no (by unfold I64; omega)]
  | false =>
    rw [if_neg (show ¬ (false = true) by simp)]
    by_cases h0 : r = 0
    · subst h0
      rw [if_pos rfl, show ((0 : Nat) : Int) = 0 from rfl, muldiv_f0]
      by_cases h : (q : Int) ≤ 9223372036854775808
      · rw [if_pos h, down_wrap (by omega) h, num_yes (by unfold I64; omega)]
      · rw [if_neg h, num_no (by unfold I64; omega)]
    · rw [if_neg h0, muldiv_up q r (by omega) hq]
/-- The floor of a product by a number. -/
def md (a b c : Int) : Int × Bool := if c = 0 then (0, false) else num (fl (a * b) c)
theorem mulDiv_eq {a b c : Int} (ha : I64 a) (hb : I64 b) (hc : I64 c) (k : Nat) (hk : 20 ≤ k) : fix_MulDiv.f k a b c = some (md a b c) := by
  unfold fix_MulDiv.f md
  by_cases h0 : c = 0
  · rw [if_pos h0, if_pos h0]
  · rw [if_neg h0, if_neg h0, times_eq ha hb]
    simp only [Option.bind_some]
    have hP := prod_bound ha hb
    generalize a * b = P at *
    rw [abs_eq hP]
    simp only [Option.bind_some]
    rw [size_eq hc]
    simp only [Option.bind_some]
    unfold I64 at hc
    have hfa := fl_abs (P := P) h0
    have hd := Nat.div_add_mod P.natAbs c.natAbs
    have hl := Nat.mod_lt P.natAbs (show 0 < c.natAbs by omega)
    by_cases hbig : ((P.natAbs / 18446744073709551616 : Nat) : Int) ≥ (c.natAbs : Int)
    · rw [if_pos hbig]
      have h1 : c.natAbs ≤ P.natAbs / 18446744073709551616 := by omega
      have h2 : 18446744073709551616 ≤ P.natAbs / c.natAbs := by
        rw [Nat.le_div_iff_mul_le (by omega), Nat.mul_comm]
        exact (Nat.le_div_iff_mul_le (by omega)).mp h1
      have : ¬ I64 (fl P c) := by
        rw [hfa]; unfold I64; split
        · omega
        · split <;> omega
      unfold num; rw [if_neg this]
    · rw [if_neg hbig]
      have hm : P.natAbs = P.natAbs / 18446744073709551616 * 18446744073709551616 + P.natAbs % 18446744073709551616 := by omega
      rw [div64_eq _ _ _ (by omega) (by omega) (by omega) k hk, ← hm]
      simp only [Option.bind_some]
      have hq : P.natAbs / c.natAbs < 18446744073709551616 := by
        rw [Nat.div_lt_iff_lt_mul (by omega)]
        have : P.natAbs / 18446744073709551616 < c.natAbs := by omega
        have := (Nat.div_lt_iff_lt_mul (show 0 < 18446744073709551616 by omega)).mp this
        rwa [Nat.mul_comm] at this
      obtain ⟨k, rfl⟩ : ∃ m, k = m + 1 := ⟨k - 1, by omega⟩
      rw [hfa]
      generalize P.natAbs / c.natAbs = q at *
      generalize P.natAbs % c.natAbs = r at *
      by_cases hs : P < 0 ↔ c < 0
      · rw [if_pos hs, if_pos (by simp [hs]), muldiv_j0 q r hq]; rfl
      · have hbe : (decide (P < 0) == decide (c < 0)) = false := by
          by_cases x : P < 0 <;> by_cases y : c < 0 <;> simp [x, y] at hs ⊢
        rw [if_neg hs, if_neg (by rw [hbe]; simp)]
        by_cases hq0 : (q : Int) = 0
        · rw [if_pos hq0, muldiv_j0 q r hq]
          by_cases hr0 : r = 0
          · have : ((r : Int) == 0) = true := by simp [hr0]
            rw [this, if_pos hr0]; simp; congr 1; omega
          · have : ((r : Int) == 0) = false := by simp [hr0]
            rw [this, if_neg hr0]; simp
        · rw [if_neg hq0, muldiv_j0 q r hq]; simp
theorem floor_eq {a b : Int} (ha : I64 a) (hb : I64 b) (k : Nat) (hk : 20 ≤ k) : fix_Floor.f k a b = some (md a 1 b) := by
  unfold fix_Floor.f
  rw [mulDiv_eq ha (by unfold I64; omega) hb k hk]
  rfl
end Go.Proofs.Ytgmegmhioiljcaa.P
namespace Go.Proofs.Ytgmegmhioiljcaa.P
open Go.RowKit Go.Proofs.YtgmegmhioiljcaaW.PrintWords Go.Proofs.YtgmegmhioiljcaaW.PrintLast Go.Proofs.YtgmegmhioiljcaaW.PrintMore
theorem and_low (n : Int) (m : Nat) (hm : m ≤ 62) (c : Int) (hc : c = ((2 ^ m - 1 : Nat) : Int)) : Go.bits .and .i64 n c = n % ((2 ^ m : Nat) : Int) := by
  subst hc
  have hp := Nat.two_pow_pos m
  have hp2 : 2 ^ m ≤ 2 ^ 62 := Nat.pow_le_pow_right (by omega) hm
  have h1 : (BitVec.ofInt 64 ((2 ^ m - 1 : Nat) : Int)).toNat = 2 ^ m - 1 := by
    rw [BitVec.toNat_ofInt]
    generalize 2 ^ m = p at *
    have : (2 : Nat) ^ 64 = 18446744073709551616 := by decide
    rw [this]; omega
  have key : (BitVec.ofInt 64 n &&& BitVec.ofInt 64 ((2 ^ m - 1 : Nat) : Int)).toNat = (n % ((2 ^ 64 : Nat) : Int)).toNat % 2 ^ m := by
    rw [BitVec.toNat_and, BitVec.toNat_ofInt, h1, Nat.and_two_pow_sub_one_eq_mod]
  show IntKind.i64.wrap ((BitVec.ofInt 64 n &&& BitVec.ofInt 64 ((2 ^ m - 1 : Nat) : Int)).toNat : Nat) = n % ((2 ^ m : Nat) : Int)
  rw [key, IntKind.wrap_i64]
  have hdvd : ((2 ^ m : Nat) : Int) ∣ ((2 ^ 64 : Nat) : Int) := by
    rw [Int.natCast_dvd_natCast]; exact Nat.pow_dvd_pow 2 (by omega)
  have e : (((n % ((2 ^ 64 : Nat) : Int)).toNat % 2 ^ m : Nat) : Int) = n % ((2 ^ m : Nat) : Int) := by
    rw [Int.natCast_emod, Int.toNat_of_nonneg (Int.emod_nonneg _ (by decide)), Int.emod_emod_of_dvd _ hdvd]
  rw [e]
  have h0 := Int.emod_nonneg n (show ((2 ^ m : Nat) : Int) ≠ 0 by omega)
  have h2 := Int.emod_lt_of_pos n (show 0 < ((2 ^ m : Nat) : Int) by omega)
  have h62 : (2 : Nat) ^ 62 = 4611686018427387904 := by decide
  generalize n % ((2 ^ m : Nat) : Int) = z at *
  generalize 2 ^ m = p at *
  omega
theorem and1 (n : Int) : Go.bits .and .i64 n 1 = n % 2 := and_low n 1 (by omega) 1 (by decide)
/-- May a point be a curve's? -/
def EvP (x y : Int) : Prop := x % 2 = 0 ∧ y % 2 = 0 ∧ -16777216 ≤ x ∧ x ≤ 16777216 ∧ -16777216 ≤ y ∧ y ≤ 16777216
instance (x y : Int) : Decidable (EvP x y) := by unfold EvP; infer_instance
theorem even_eq (x y : Int) : curve_Even.f x y = some (decide (EvP x y)) := by
  unfold curve_Even.f
  rw [and1, and1]
  by_cases h1 : x % 2 = 0
  · rw [if_pos h1]
    by_cases h2 : y % 2 = 0
    · rw [if_pos h2]
      by_cases h3 : mx x y ≤ 16777216
      · rw [if_pos h3]; congr 1; apply decide_eq_decide.mpr; unfold EvP; unfold mx at h3; unfold mn; omega
      · rw [if_neg h3]; congr 1; symm; apply decide_eq_false; unfold EvP; unfold mx at h3; omega
    · rw [if_neg h2]; congr 1; symm; apply decide_eq_false; unfold EvP; omega
  · rw [if_neg h1]; congr 1; symm; apply decide_eq_false; unfold EvP; omega
/-- Numbers whose product fits. -/
theorem pb {a b : Int} (ha : -33554432 ≤ a ∧ a ≤ 33554432) (hb : -33554432 ≤ b ∧ b ≤ 33554432) : -1125899906842624 ≤ a * b ∧ a * b ≤ 1125899906842624 := by
  have h1 := Int.mul_nonneg (a := 33554432 - a) (b := 33554432 - b) (by omega) (by omega)
  have h2 := Int.mul_nonneg (a := 33554432 + a) (b := 33554432 + b) (by omega) (by omega)
  have h3 := Int.mul_nonneg (a := 33554432 - a) (b := 33554432 + b) (by omega) (by omega)
  have h4 := Int.mul_nonneg (a := 33554432 + a) (b := 33554432 - b) (by omega) (by omega)
  have e1 : (33554432 - a) * (33554432 - b) = 1125899906842624 - 33554432 * a - 33554432 * b + a * b := by grind
  have e2 : (33554432 + a) * (33554432 + b) = 1125899906842624 + 33554432 * a + 33554432 * b + a * b := by grind
  have e3 : (33554432 - a) * (33554432 + b) = 1125899906842624 - 33554432 * a + 33554432 * b - a * b := by grind
  have e4 : (33554432 + a) * (33554432 - b) = 1125899906842624 + 33554432 * a - 33554432 * b - a * b := by grind
  omega
/-- A segment. -/
abbrev Sg := S27
def segR (s : Sg) : Prop := EvP s.f0.f0 s.f0.f1 ∧ EvP s.f1.f0 s.f1.f1 ∧ (0 ≤ s.f2 ∧ s.f2 < 256) ∧ 0 ≤ s.f3 ∧ s.f3 < 256
instance (s : Sg) : Decidable (segR s) := by unfold segR; infer_instance
/-- May a sample be at a part? -/
def oddP (n : Int) : Prop := n % 2 = 1 ∧ -16777216 ≤ n ∧ n ≤ 16777216
instance (n : Int) : Decidable (oddP n) := by unfold oddP; infer_instance
/-- Does a segment that goes down from a to b cross a sample's row, left of the sample? -/
def hitV (ax ay bx bz x y : Int) : Prop := ay ≤ y ∧ y ≤ bz ∧ (bx - ax) * (y - ay) ≤ (x - ax) * (bz - ay)
instance (ax ay bx bz x y : Int) : Decidable (hitV ax ay bx bz x y) := by unfold hitV; infer_instance
def dnS (s : Sg) : Int × Int × Int × Int × Int × Int := if s.f0.f1 ≤ s.f1.f1 then (s.f0.f0, s.f0.f1, s.f1.f0, s.f1.f1, s.f2, s.f3) else (s.f1.f0, s.f1.f1, s.f0.f0, s.f0.f1, s.f3, s.f2)
def hit (s : Sg) (x y : Int) : Prop := hitV (dnS s).1 (dnS s).2.1 (dnS s).2.2.1 (dnS s).2.2.2.1 x y
instance (s : Sg) (x y : Int) : Decidable (hit s x y) := by unfold hit; infer_instance
def gvS (s : Sg) : Int := (dnS s).2.2.2.2.1
def tkS (s : Sg) : Int := (dnS s).2.2.2.2.2
def ind (a b : Int) : Int := if a = b then 1 else 0
/-- What a segment winds a sample by a style. -/
def cwS (st x y : Int) (s : Sg) : Int := if segR s ∧ hit s x y then ind (gvS s) st - ind (tkS s) st else 0
/-- .. and all of them. -/
def wS (l : List Sg) (st x y : Int) : Int := (l.map (cwS st x y)).sum
theorem wS_nil (st x y : Int) : wS [] st x y = 0 := rfl
theorem wS_cons (s : Sg) (l : List Sg) (st x y : Int) : wS (s :: l) st x y = cwS st x y s + wS l st x y := by unfold wS; simp
theorem wS_append (l m : List Sg) (st x y : Int) : wS (l ++ m) st x y = wS l st x y + wS m st x y := by unfold wS; simp
theorem ind_bd (a b : Int) : 0 ≤ ind a b ∧ ind a b ≤ 1 := by unfold ind; split <;> omega
theorem rds (l : List Sg) (i : Nat) (h : i < l.length) : rd_T27 l (i : Int) = l[i] := by
  unfold rd_T27; rw [Int.toNat_natCast]; simp [List.getD_eq_getElem?_getD, h]
theorem drop_sg (l : List Sg) (i : Nat) (h : i < l.length) : l.drop i = l[i] :: l.drop (i + 1) := List.drop_eq_getElem_cons h
theorem seg_eq (s : Sg) : sweep_RightSeg.f s.f0.f0 s.f0.f1 s.f1.f0 s.f1.f1 s.f2 s.f3 = some (decide (segR s)) := by
  unfold sweep_RightSeg.f
  rw [even_eq, even_eq, Option.bind_some, Option.bind_some]
  unfold segR
  by_cases h1 : EvP s.f0.f0 s.f0.f1
  · rw [if_pos (decide_eq_true h1)]
    by_cases h2 : EvP s.f1.f0 s.f1.f1
    · rw [if_pos (decide_eq_true h2)]
      by_cases h3 : mn s.f2 s.f3 ≥ 0
      · rw [if_pos h3]; congr 1
        unfold mn at h3
        exact decide_eq_decide.mpr ⟨fun h => by unfold mx at h; exact ⟨h1, h2, by omega⟩, fun h => by have := h.2.2; unfold mx; omega⟩
      · rw [if_neg h3]; congr 1; symm; apply decide_eq_false; intro h; apply h3; have := h.2.2; unfold mn; omega
    · rw [if_neg (by simpa using h2)]; congr 1; symm; apply decide_eq_false; intro h; exact h2 h.2.1
  · rw [if_neg (by simpa using h1)]; congr 1; symm; apply decide_eq_false; intro h; exact h1 h.1
theorem down_eq (s : Sg) : sweep_down.f s.f0.f0 s.f0.f1 s.f1.f0 s.f1.f1 s.f2 s.f3 = some (dnS s) := by
  unfold sweep_down.f dnS
  by_cases h : s.f0.f1 ≤ s.f1.f1
  · rw [if_pos h, if_pos h]
  · rw [if_neg h, if_neg h]
/-- The ends of a right segment that goes down. -/
theorem dn_bd {s : Sg} (h : segR s) : ((dnS s).1 % 2 = 0 ∧ -16777216 ≤ (dnS s).1 ∧ (dnS s).1 ≤ 16777216) ∧ ((dnS s).2.1 % 2 = 0 ∧ -16777216 ≤ (dnS s).2.1 ∧ (dnS s).2.1 ≤ 16777216) ∧ ((dnS s).2.2.1 % 2 = 0 ∧ -16777216 ≤ (dnS s).2.2.1 ∧ (dnS s).2.2.1 ≤ 16777216) ∧ ((dnS s).2.2.2.1 % 2 = 0 ∧ -16777216 ≤ (dnS s).2.2.2.1 ∧ (dnS s).2.2.2.1 ≤ 16777216) ∧ (dnS s).2.1 ≤ (dnS s).2.2.2.1 ∧ (0 ≤ gvS s ∧ gvS s < 256) ∧ 0 ≤ tkS s ∧ tkS s < 256 := by
  obtain ⟨h1, h2, h3, h4⟩ := h
  unfold EvP at h1 h2
  unfold gvS tkS dnS
  by_cases c : s.f0.f1 ≤ s.f1.f1
  · rw [if_pos c]; dsimp only; omega
  · rw [if_neg c]; dsimp only; omega
/-- Are all of them right? -/
def allS (l : List Sg) : Bool := l.all fun s => decide (segR s)
theorem allS_yes {l : List Sg} (h : ∀ s ∈ l, segR s) : allS l = true := by unfold allS; rw [List.all_eq_true]; intro s hs; exact decide_eq_true (h s hs)
theorem allS_of {l : List Sg} (h : allS l = true) : ∀ s ∈ l, segR s := by intro s hs; unfold allS at h; rw [List.all_eq_true] at h; exact of_decide_eq_true (h s hs)
end Go.Proofs.Ytgmegmhioiljcaa.P
namespace Go.Proofs.Ytgmegmhioiljcaa.P
open Go.RowKit Go.Proofs.YtgmegmhioiljcaaW.PrintWords Go.Proofs.YtgmegmhioiljcaaW.PrintLast Go.Proofs.YtgmegmhioiljcaaW.PrintMore
/-- Where a sample is. -/
def sm (n : Nat) : Int := 16 * (n : Int) + 7
/-- A frame of so many columns and rows, as the numbers of its places tell it. -/
def Frm (cols rows : Nat) (o : List Int) (f : Nat → Nat → Int) : Prop := o.length = cols * rows ∧ ∀ r c, r < rows → c < cols → rd o ((r * cols + c : Nat) : Int) = f r c
theorem place_lt {cols rows r c : Nat} (hr : r < rows) (hc : c < cols) : r * cols + c < cols * rows := by
  have h : (r + 1) * cols ≤ rows * cols := Nat.mul_le_mul_right _ hr
  rw [Nat.add_mul, Nat.one_mul] at h
  rw [Nat.mul_comm cols rows]; omega
theorem place_inj {cols r c r' c' : Nat} (hc : c < cols) (hc' : c' < cols) (h : r * cols + c = r' * cols + c') : r = r' ∧ c = c' := by
  have hp : 0 < cols := by omega
  have h1 : (r * cols + c) / cols = r := by rw [Nat.mul_comm, Nat.mul_add_div hp, Nat.div_eq_of_lt hc, Nat.add_zero]
  have h2 : (r' * cols + c') / cols = r' := by rw [Nat.mul_comm, Nat.mul_add_div hp, Nat.div_eq_of_lt hc', Nat.add_zero]
  rw [h] at h1
  have : r = r' := by omega
  subst this
  omega
theorem rd_set' (l : List Int) (i j : Nat) (x : Int) : rd (l.set i x) (j : Int) = if i = j ∧ j < l.length then x else rd l (j : Int) := by
  unfold rd
  simp only [Int.toNat_natCast, List.getD_eq_getElem?_getD, List.getElem?_set]
  by_cases h : i = j
  · subst h
    by_cases h2 : i < l.length
    · simp [h2]
    · simp [h2]
  · simp [h]
theorem Frm.frmset {cols rows : Nat} {o : List Int} {f : Nat → Nat → Int} (h : Frm cols rows o f) {r c : Nat} (hr : r < rows) (hc : c < cols) (v : Int) : Frm cols rows (o.set (r * cols + c) v) (fun r' c' => if r' = r ∧ c' = c then v else f r' c') := by
  refine ⟨by rw [List.length_set]; exact h.1, fun r' c' hr' hc' => ?_⟩
  rw [rd_set']
  by_cases e : r' = r ∧ c' = c
  · obtain ⟨rfl, rfl⟩ := e
    rw [if_pos ⟨rfl, by rw [h.1]; exact place_lt hr' hc'⟩]; simp
  · rw [if_neg (fun g => e (by have := place_inj hc hc' g.1; omega)), h.2 r' c' hr' hc']; simp [e]
theorem Frm.frmcong {cols rows : Nat} {o : List Int} {f g : Nat → Nat → Int} (h : Frm cols rows o f) (e : ∀ r c, r < rows → c < cols → f r c = g r c) : Frm cols rows o g :=
  ⟨h.1, fun r c hr hc => (h.2 r c hr hc).trans (e r c hr hc)⟩
theorem Frm.frmzero (cols rows : Nat) : Frm cols rows (List.replicate (cols * rows) 0) (fun _ _ => 0) := by
  refine ⟨by simp, fun r c hr hc => ?_⟩
  unfold rd
  rw [Int.toNat_natCast]
  simp [List.getD_eq_getElem?_getD, place_lt hr hc]
/-- The greatest style from 1 to 255 at which there is more than nothing; 0: there is none. -/
def Best (F : Int → Int) (r : Int) : Prop := (r = 0 ∧ ∀ s, 1 ≤ s → s ≤ 255 → F s ≤ 0) ∨ (1 ≤ r ∧ r ≤ 255 ∧ 0 < F r ∧ ∀ s, r < s → s ≤ 255 → F s ≤ 0)
theorem Best.unique {F : Int → Int} {r q : Int} (h : Best F r) (g : Best F q) : r = q := by
  rcases h with ⟨rfl, h⟩ | ⟨h1, h2, h3, h4⟩
  · rcases g with ⟨rfl, _⟩ | ⟨g1, g2, g3, _⟩
    · rfl
    · have := h q g1 g2; omega
  · rcases g with ⟨rfl, g⟩ | ⟨g1, g2, g3, g4⟩
    · have := g r h1 h2; omega
    · rcases Int.lt_trichotomy r q with k | k | k
      · have := h4 q k g2; omega
      · exact k
      · have := g4 r k h2; omega
theorem Best.cong {F G : Int → Int} {r : Int} (h : Best F r) (e : ∀ s, 1 ≤ s → s ≤ 255 → F s = G s) : Best G r := by
  rcases h with ⟨rfl, h⟩ | ⟨h1, h2, h3, h4⟩
  · exact .inl ⟨rfl, fun s a b => by rw [← e s a b]; exact h s a b⟩
  · exact .inr ⟨h1, h2, by rw [← e r h1 h2]; exact h3, fun s a b => by rw [← e s (by omega) b]; exact h4 s a b⟩
abbrev Mk := S61
/-- The least column whose sample is not left of where a segment meets a row. -/
def colS (s : Sg) (y : Int) : Int := (((dnS s).2.2.1 - (dnS s).1) * (y - (dnS s).2.1) + ((dnS s).1 - 7) * ((dnS s).2.2.2.1 - (dnS s).2.1) + 16 * ((dnS s).2.2.2.1 - (dnS s).2.1) - 1) / (16 * ((dnS s).2.2.2.1 - (dnS s).2.1))
def mkS (y C : Int) (s : Sg) : Option Mk := if (dnS s).2.1 ≤ y ∧ y ≤ (dnS s).2.2.2.1 ∧ colS s y < C then some ⟨max (colS s y) 0, gvS s, tkS s⟩ else none
def rawS (l : List Sg) (y C : Int) : List Mk := l.filterMap (mkS y C)
theorem marks_round {l : List Sg} (hl : l.length ≤ 1000) (hr : ∀ s ∈ l, segR s) {y C : Int} (hy : oddP y) (i : Nat) (hi : i < l.length) (acc : List Mk) (ha : acc.length ≤ i) (k : Nat) (hk : 30 ≤ k) :
    sweep_marks.l0 (k + 2) y C acc l (l.length : Int) (i : Int) = sweep_marks.l0 k y C (acc ++ (mkS y C l[i]).toList) l (l.length : Int) ((i + 1 : Nat) : Int) := by
  have h := hr l[i] (List.getElem_mem _)
  have hb := dn_bd h
  have hy' := hy
  unfold oddP at hy'
  rw [sweep_marks.l0, if_pos (by omega), if_pos (by omega), if_pos (by omega), rds l i hi, down_eq, Option.bind_some]
  unfold mkS colS
  unfold gvS tkS at hb ⊢
  generalize (dnS l[i]).1 = ax at *
  generalize (dnS l[i]).2.1 = ay at *
  generalize (dnS l[i]).2.2.1 = bx at *
  generalize (dnS l[i]).2.2.2.1 = bz at *
  generalize (dnS l[i]).2.2.2.2.1 = g at *
  generalize (dnS l[i]).2.2.2.2.2 = t at *
  have no : sweep_marks.j1 (k + 1) y C acc g t l (l.length : Int) (i : Int) true ax ay bx bz = sweep_marks.l0 k y C (acc ++ []) l (l.length : Int) ((i + 1 : Nat) : Int) := by
    rw [sweep_marks.j1, if_pos rfl, w64_id (by omega) (by omega), List.append_nil]; rfl
  by_cases c1 : y < ay
  · rw [if_pos c1, if_neg (by omega)]; exact no
  · rw [if_neg c1]
    by_cases c2 : y > bz
    · rw [decide_eq_true c2, if_neg (by omega)]; exact no
    · rw [decide_eq_false c2, sweep_marks.j1, if_neg (by simp)]
      have p1 := pb (a := bx - ax) (b := y - ay) (by omega) (by omega)
      have p2 := pb (a := ax - 7) (b := bz - ay) (by omega) (by omega)
      rw [w64_id (n := bx - ax) (by omega) (by omega), w64_id (n := y - ay) (by omega) (by omega), w64_id (n := ax - 7) (by omega) (by omega), w64_id (n := bz - ay) (by omega) (by omega), w64_id (n := (bx - ax) * (y - ay)) (by omega) (by omega), w64_id (n := (ax - 7) * (bz - ay)) (by omega) (by omega), w64_id (n := (bx - ax) * (y - ay) + (ax - 7) * (bz - ay)) (by omega) (by omega), w64_id (n := 16 * (bz - ay)) (by omega) (by omega), w64_id (n := (bx - ax) * (y - ay) + (ax - 7) * (bz - ay) + 16 * (bz - ay)) (by omega) (by omega), w64_id (n := (bx - ax) * (y - ay) + (ax - 7) * (bz - ay) + 16 * (bz - ay) - 1) (by omega) (by omega), floor_eq (by unfold I64; omega) (by unfold I64; omega) k (by omega), Option.bind_some]
      generalize hn : (bx - ax) * (y - ay) + (ax - 7) * (bz - ay) + 16 * (bz - ay) - 1 = n at *
      have hh : 0 < 16 * (bz - ay) := by omega
      have e1 : (md n 1 (16 * (bz - ay))).1 = n / (16 * (bz - ay)) := by
        have hq : -9223372036854775808 ≤ n / (16 * (bz - ay)) ∧ n / (16 * (bz - ay)) ≤ 9223372036854775807 := by
          have h1 := Int.mul_ediv_add_emod n (16 * (bz - ay))
          have h2 := Int.emod_nonneg n (show 16 * (bz - ay) ≠ 0 by omega)
          have h3 := Int.emod_lt_of_pos n hh
          constructor
          · rw [Int.le_ediv_iff_mul_le hh]; omega
          · have : n / (16 * (bz - ay)) < 9223372036854775808 := by rw [Int.ediv_lt_iff_lt_mul hh]; omega
            omega
        unfold md
        rw [if_neg (by omega), Int.mul_one]
        have e2 : fl n (16 * (bz - ay)) = n / (16 * (bz - ay)) := by unfold fl; rw [if_pos hh]
        rw [e2, num_yes (by unfold I64; omega)]
      rw [e1, w64_id (n := (i : Int) + 1) (by omega) (by omega), show (i : Int) + 1 = ((i + 1 : Nat) : Int) by omega]
      by_cases c3 : n / (16 * (bz - ay)) < C
      · rw [if_pos c3, if_pos (by omega), if_pos ⟨by omega, by omega, c3⟩]
        have e3 : mx (n / (16 * (bz - ay))) 0 = max (n / (16 * (bz - ay))) 0 := by unfold mx; omega
        rw [e3]; rfl
      · rw [if_neg c3, if_neg (fun z => c3 z.2.2)]
        show _ = sweep_marks.l0 k y C (acc ++ []) l _ _
        rw [List.append_nil]
theorem marks_l0 {l : List Sg} (hl : l.length ≤ 1000) (hr : ∀ s ∈ l, segR s) {y C : Int} (hy : oddP y) : ∀ (d i k : Nat) (acc : List Mk), d + i = l.length → acc.length ≤ i → 2 * d + 31 ≤ k →
    sweep_marks.l0 k y C acc l (l.length : Int) (i : Int) = sweep_mark.f (acc ++ rawS (l.drop i) y C) := by
  intro d
  induction d with
  | zero =>
    intro i k acc h ha hk
    obtain ⟨k, rfl⟩ : ∃ m, k = m + 1 := ⟨k - 1, by omega⟩
    rw [sweep_marks.l0, if_neg (by omega), List.drop_of_length_le (by omega)]
    unfold rawS
    rw [List.filterMap_nil, List.append_nil]
    cases sweep_mark.f acc <;> rfl
  | succ d ih =>
    intro i k acc h ha hk
    obtain ⟨k, rfl⟩ : ∃ m, k = m + 2 := ⟨k - 2, by omega⟩
    have hi : i < l.length := by omega
    have h1 : (mkS y C l[i]).toList.length ≤ 1 := by cases mkS y C l[i] <;> simp
    rw [marks_round hl hr hy i hi acc ha k (by omega), ih (i + 1) k _ (by omega) (by rw [List.length_append]; omega) (by omega), drop_sg l i hi, List.append_assoc]
    congr 2
    unfold rawS
    rw [List.filterMap_cons]
    cases mkS y C l[i] <;> rfl
theorem raw_le (l : List Sg) (y C : Int) : (rawS l y C).length ≤ l.length := by unfold rawS; exact List.length_filterMap_le _ _
/-- The marks of a row: all of them, by columns. -/
theorem marks_eq {l : List Sg} (hl : l.length ≤ 1000) (hr : ∀ s ∈ l, segR s) {y C : Int} (hy : oddP y) (k : Nat) (hk : 2031 ≤ k) :
    ∃ M : List Mk, sweep_marks.f k l y C = some M ∧ M.Perm (rawS l y C) ∧ ∀ i j, i < j → ∀ (hj : j < M.length) (hi : i < M.length), M[i].f0 ≤ M[j].f0 := by
  unfold sweep_marks.f
  have e := marks_l0 hl hr (C := C) hy l.length 0 k [] (by omega) (by simp) (by omega)
  rw [List.nil_append, List.drop_zero] at e
  have hlen := raw_le l y C
  generalize rawS l y C = R at *
  unfold sweep_mark.f at e
  rw [if_pos (by omega)] at e
  have hp := Go.Sort.pdq_sorts (ltOf cfM) swoM R.toArray 0 R.toArray.size (Lib.bitLen R.toArray.size) true true (Nat.zero_le _) (Nat.le_refl _) (Or.inl rfl)
  generalize Go.Sort.pdq (ltOf cfM) R.toArray 0 R.toArray.size (Lib.bitLen R.toArray.size) true true = D at *
  have hs : D.size = R.length := by have := hp.1.1; simpa using this
  refine ⟨D.toList, e, ?_, ?_⟩
  · have h1 := hp.1.2.2
    have e1 : (D.extract 0 R.toArray.size).toList = D.toList := by
      have : R.toArray.size = D.size := by simpa using hs.symm
      rw [this]; simp
    rw [e1] at h1
    simpa using h1
  · intro i j hij hj hi
    have hD : j < D.size := by simpa using hj
    have h9 : j < R.toArray.size := by have : j < R.length := by omega
                                       simpa using this
    have h2 := hp.2 i j (Nat.zero_le _) hij h9
    rw [ltM] at h2
    have h3 := of_decide_eq_false h2
    rw [getElem!_pos D j hD, getElem!_pos D i (by omega)] at h3
    simp only [Array.getElem_toList]
    omega
/-- What the marks of the columns up to i wind by a style. -/
def wiS (i : Int) (st : Int) (q : Mk) : Int := if q.f0 ≤ i then ind q.f1 st - ind q.f2 st else 0
def wmS (m : List Mk) (i st : Int) : Int := (m.map (wiS i st)).sum
theorem wmS_nil (i st : Int) : wmS [] i st = 0 := rfl
theorem wmS_cons (q : Mk) (m : List Mk) (i st : Int) : wmS (q :: m) i st = wiS i st q + wmS m i st := by unfold wmS; simp
theorem wmS_append (m n : List Mk) (i st : Int) : wmS (m ++ n) i st = wmS m i st + wmS n i st := by unfold wmS; simp
theorem wmS_perm {m n : List Mk} (h : m.Perm n) (i st : Int) : wmS m i st = wmS n i st := by
  induction h with
  | nil => rfl
  | cons x _ ih => rw [wmS_cons, wmS_cons, ih]
  | swap x y l => rw [wmS_cons, wmS_cons, wmS_cons, wmS_cons]; omega
  | trans _ _ h1 h2 => exact h1.trans h2
theorem col_iff {s : Sg} (h : segR s) {y : Int} (hy : oddP y) (h1 : (dnS s).2.1 ≤ y) (h2 : y ≤ (dnS s).2.2.2.1) (i : Nat) : colS s y ≤ (i : Int) ↔ hit s (sm i) y := by
  have hb := dn_bd h
  unfold oddP at hy
  unfold colS hit hitV sm
  generalize (dnS s).1 = ax at *
  generalize (dnS s).2.1 = ay at *
  generalize (dnS s).2.2.1 = bx at *
  generalize (dnS s).2.2.2.1 = bz at *
  have hh : 0 < bz - ay := by omega
  generalize hH : bz - ay = H at *
  generalize (bx - ax) * (y - ay) = P at *
  have e1 : (P + (ax - 7) * H + 16 * H - 1) / (16 * H) ≤ (i : Int) ↔ (P + (ax - 7) * H + 16 * H - 1) / (16 * H) < (i : Int) + 1 := by omega
  rw [e1, Int.ediv_lt_iff_lt_mul (by omega)]
  have e2 : ((i : Int) + 1) * (16 * H) = 16 * ((i : Int) * H) + 16 * H := by grind
  have e3 : (ax - 7) * H = ax * H - 7 * H := by grind
  have e4 : (16 * (i : Int) + 7 - ax) * H = 16 * ((i : Int) * H) + 7 * H - ax * H := by grind
  rw [e2, e3, e4]
  constructor
  · intro g; exact ⟨h1, h2, by omega⟩
  · rintro ⟨_, _, g⟩; omega
theorem wm_raw {l : List Sg} (hr : ∀ s ∈ l, segR s) {y : Int} (hy : oddP y) {C : Nat} {i : Nat} (hi : i < C) (st : Int) : wmS (rawS l y (C : Int)) (i : Int) st = wS l st (sm i) y := by
  induction l with
  | nil => rfl
  | cons s l ih =>
    have h := hr s (List.mem_cons_self ..)
    have ih' := ih (fun z hz => hr z (List.mem_cons_of_mem _ hz))
    rw [wS_cons, ← ih']
    unfold rawS
    rw [List.filterMap_cons]
    have key : wmS ((mkS y (C : Int) s).toList) (i : Int) st = cwS st (sm i) y s := by
      unfold mkS cwS
      by_cases c : (dnS s).2.1 ≤ y ∧ y ≤ (dnS s).2.2.2.1
      · have ci := col_iff h hy c.1 c.2 i
        by_cases d : colS s y < C
        · rw [if_pos ⟨c.1, c.2, d⟩, Option.toList_some, wmS_cons, wmS_nil]
          unfold wiS
          dsimp only
          by_cases e : colS s y ≤ i
          · rw [if_pos (by omega), if_pos ⟨h, ci.mp e⟩]; omega
          · rw [if_neg (by omega), if_neg (fun z => e (ci.mpr z.2))]; rfl
        · rw [if_neg (fun z => d z.2.2), if_neg (fun z => by have := ci.mpr z.2; omega)]; rfl
      · rw [if_neg (fun z => c ⟨z.1, z.2.1⟩), if_neg (fun z => c ⟨z.2.1, z.2.2.1⟩)]; rfl
    rw [← key]
    cases mkS y (C : Int) s with
    | none => rw [Option.toList_none, wmS_nil, Int.zero_add]
    | some q => rw [Option.toList_some, show wmS [q] (i : Int) st = wiS (i : Int) st q by rw [wmS_cons, wmS_nil, Int.add_zero], wmS_cons]
/-- The marks of a row, by columns, all of them of styles. -/
def Srt (M : List Mk) : Prop := (∀ i j, i < j → ∀ (hj : j < M.length) (hi : i < M.length), M[i].f0 ≤ M[j].f0) ∧ (∀ q ∈ M, 0 ≤ q.f0 ∧ (0 ≤ q.f1 ∧ q.f1 < 256) ∧ 0 ≤ q.f2 ∧ q.f2 < 256)
/-- What is wound, behind so many marks: by each style, and the greatest style so far. -/
def Inv (M : List Mk) (n : Nat) (wd : List Int) (top : Int) : Prop := wd.length = 256 ∧ (∀ s : Nat, s < 256 → rd wd (s : Int) = ((M.take n).map (fun q => ind q.f1 (s : Int) - ind q.f2 (s : Int))).sum) ∧ (0 ≤ top ∧ top ≤ 255) ∧ ∀ s : Nat, top < s → s < 256 → rd wd (s : Int) = 0
theorem rdm (M : List Mk) (i : Nat) (h : i < M.length) : rd_T61 M (i : Int) = M[i] := by
  unfold rd_T61; rw [Int.toNat_natCast]; simp [List.getD_eq_getElem?_getD, h]
theorem sum_bd (m : List Mk) (s : Int) : -(m.length : Int) ≤ (m.map (fun q => ind q.f1 s - ind q.f2 s)).sum ∧ (m.map (fun q => ind q.f1 s - ind q.f2 s)).sum ≤ m.length := by
  induction m with
  | nil => simp
  | cons q m ih =>
    have := ind_bd q.f1 s; have := ind_bd q.f2 s
    simp only [List.map_cons, List.sum_cons, List.length_cons]; omega
/-- One mark more. -/
theorem Inv.next {M : List Mk} (hM : Srt M) (hl : M.length ≤ 1000) {n : Nat} (hn : n < M.length) {wd : List Int} {top : Int} (h : Inv M n wd top) :
    0 ≤ M[n].f1 ∧ M[n].f1 < (wd.length : Int) ∧ 0 ≤ M[n].f2 ∧ M[n].f2 < (wd.length : Int) ∧
    Inv M (n + 1) ((wd.set M[n].f1.toNat (wrap64 (rd wd M[n].f1 + 1))).set M[n].f2.toNat (wrap64 (rd (wd.set M[n].f1.toNat (wrap64 (rd wd M[n].f1 + 1))) M[n].f2 - 1))) (mx (mx top M[n].f1) M[n].f2) := by
  obtain ⟨h1, h2, h3, h4⟩ := h
  have hq := hM.2 M[n] (List.getElem_mem _)
  generalize hQ : M[n] = q at *
  obtain ⟨a, ha⟩ : ∃ a : Nat, q.f1 = (a : Int) := ⟨q.f1.toNat, by omega⟩
  obtain ⟨b, hb⟩ : ∃ b : Nat, q.f2 = (b : Int) := ⟨q.f2.toNat, by omega⟩
  have ha2 : a < 256 := by omega
  have hb2 : b < 256 := by omega
  rw [ha, hb, Int.toNat_natCast, Int.toNat_natCast]
  have bd : ∀ s : Nat, s < 256 → -1000 ≤ rd wd (s : Int) ∧ rd wd (s : Int) ≤ 1000 := by
    intro s hs
    have := sum_bd (M.take n) (s : Int)
    have hlen : (M.take n).length ≤ 1000 := by rw [List.length_take]; omega
    rw [h2 s hs]; omega
  have e1 := bd a ha2
  have e2 := bd b hb2
  have r1 := rd_set' wd a b (wrap64 (rd wd (a : Int) + 1))
  have wa : wrap64 (rd wd (a : Int) + 1) = rd wd (a : Int) + 1 := w64_id (by omega) (by omega)
  have e3 : -1001 ≤ rd (wd.set a (wrap64 (rd wd (a : Int) + 1))) (b : Int) ∧ rd (wd.set a (wrap64 (rd wd (a : Int) + 1))) (b : Int) ≤ 1001 := by rw [r1, wa]; split <;> omega
  have wb : wrap64 (rd (wd.set a (wrap64 (rd wd (a : Int) + 1))) (b : Int) - 1) = rd (wd.set a (wrap64 (rd wd (a : Int) + 1))) (b : Int) - 1 := w64_id (by omega) (by omega)
  refine ⟨by omega, by omega, by omega, by omega, ?_⟩
  have key : ∀ s : Nat, s < 256 → rd ((wd.set a (wrap64 (rd wd (a : Int) + 1))).set b (wrap64 (rd (wd.set a (wrap64 (rd wd (a : Int) + 1))) (b : Int) - 1))) (s : Int) = rd wd (s : Int) + (ind (a : Int) (s : Int) - ind (b : Int) (s : Int)) := by
    intro s hs
    rw [rd_set', wb, r1, rd_set' wd a s, wa, List.length_set, h1]
    unfold ind
    by_cases c1 : b = s
    · subst c1
      by_cases c2 : a = b
      · subst c2; rw [if_pos ⟨rfl, hs⟩, if_pos ⟨rfl, hs⟩, if_pos rfl]; omega
      · rw [if_pos ⟨rfl, hs⟩, if_neg (fun g => c2 g.1), if_neg (by omega), if_pos rfl]; omega
    · rw [if_neg (fun g => c1 g.1), if_neg (show ¬ (b : Int) = s by omega)]
      by_cases c2 : a = s
      · subst c2; rw [if_pos ⟨rfl, hs⟩, if_pos rfl]; omega
      · rw [if_neg (fun g => c2 g.1), if_neg (by omega)]; omega
  refine ⟨by rw [List.length_set, List.length_set]; exact h1, ?_, ?_, ?_⟩
  · intro s hs
    rw [key s hs, h2 s hs, List.take_succ_eq_append_getElem hn, List.map_append, List.sum_append, hQ]
    simp [ha, hb]
  · unfold mx; omega
  · intro s hs1 hs2
    have g1 : top < s ∧ (a : Int) < s ∧ (b : Int) < s := by unfold mx at hs1; omega
    rw [key s hs2, h4 s g1.1 hs2]
    unfold ind
    rw [if_neg (by omega), if_neg (by omega)]; rfl
/-- The marks of one column. -/
theorem own_l2 {l : List Sg} {M : List Mk} (hM : Srt M) (hl : M.length ≤ 1000) (C : Int) (o : List Int) (row rows row' cols col p : Int) :
    ∀ (d n : Nat) (wd : List Int) (top : Int), d + n = M.length → Inv M n wd top →
    ∃ N n' wd' top', n ≤ n' ∧ n' ≤ M.length ∧ Inv M n' wd' top' ∧ (∀ j, n ≤ j → j < n' → ∀ hj : j < M.length, M[j].f0 = col) ∧ (∀ hj : n' < M.length, M[n'].f0 ≠ col) ∧
      ∀ k, sweep_Owners.l2 (k + N) l C o row M wd (n : Int) top col rows row' cols col p = sweep_Owners.l3 k l C o row M wd' (n' : Int) top' top' rows row' cols col p := by
  intro d
  induction d with
  | zero =>
    intro n wd top h hi
    refine ⟨2, n, wd, top, Nat.le_refl _, by omega, hi, fun j a b => by omega, fun hj => by omega, fun k => ?_⟩
    rw [show k + 2 = k + 1 + 1 by omega, sweep_Owners.l2, if_neg (by omega), sweep_Owners.j4]
  | succ d ih =>
    intro n wd top h hi
    have hn : n < M.length := by omega
    by_cases c : M[n].f0 = col
    · obtain ⟨b1, b2, b3, b4, hi'⟩ := hi.next hM hl hn
      obtain ⟨N, n', wd', top', a1, a2, a3, a4, a5, a6⟩ := ih (n + 1) _ _ (by omega) hi'
      refine ⟨N + 1, n', wd', top', by omega, a2, a3, fun j g1 g2 hj => ?_, a5, fun k => ?_⟩
      · rcases Nat.eq_or_lt_of_le g1 with e | e
        · subst e; exact c
        · exact a4 j e g2 hj
      · rw [show k + (N + 1) = k + N + 1 by omega, sweep_Owners.l2, if_pos (by omega), if_pos (by omega), rdm M n hn, if_pos c, if_pos b1, if_pos b2, Option.bind_some, if_pos b3, if_pos b4, w64_id (n := (n : Int) + 1) (by omega) (by omega), show (n : Int) + 1 = ((n + 1 : Nat) : Int) by omega]
        exact a6 k
    · refine ⟨2, n, wd, top, Nat.le_refl _, by omega, hi, fun j a b => by omega, fun _ => c, fun k => ?_⟩
      rw [show k + 2 = k + 1 + 1 by omega, sweep_Owners.l2, if_pos (by omega), if_pos (by omega), rdm M n hn, if_neg c, sweep_Owners.j4]
/-- The greatest style that is wound. -/
theorem own_l3 {l : List Sg} {M : List Mk} {wd : List Int} (hw : wd.length = 256) (C : Int) (row rows row' cols col at_ top : Int) {p : Nat} :
    ∀ (s : Nat) (o : List Int), s < 256 → p < o.length → rd o (p : Int) = 0 →
    ∃ N r, (r = 0 ∧ (∀ z : Nat, 1 ≤ z → z ≤ s → rd wd (z : Int) ≤ 0) ∨ ∃ z : Nat, r = (z : Int) ∧ 1 ≤ z ∧ z ≤ s ∧ 0 < rd wd (z : Int) ∧ ∀ u : Nat, z < u → u ≤ s → rd wd (u : Int) ≤ 0) ∧
      ∀ k, sweep_Owners.l3 (k + N) l C o row M wd at_ top (s : Int) rows row' cols col (p : Int) = sweep_Owners.l1 k l C (o.set p r) row M wd at_ top rows row' cols (wrap64 (col + 1)) := by
  intro s
  induction s with
  | zero =>
    intro o hs hp h0
    refine ⟨2, 0, .inl ⟨rfl, fun z a b => by omega⟩, fun k => ?_⟩
    have e : o.set p 0 = o := by
      apply List.ext_getElem (by simp)
      intro j h1 h2
      rw [List.getElem_set]
      by_cases c : p = j
      · subst c
        rw [if_pos rfl]
        unfold rd at h0
        rw [Int.toNat_natCast, List.getD_eq_getElem?_getD, List.getElem?_eq_getElem h2] at h0
        exact h0.symm
      · rw [if_neg c]
    rw [show k + 2 = k + 1 + 1 by omega, sweep_Owners.l3, if_neg (by omega), sweep_Owners.j6, if_neg (by simp), e]
  | succ s ih =>
    intro o hs hp h0
    by_cases c : rd wd ((s + 1 : Nat) : Int) > 0
    · refine ⟨4, ((s + 1 : Nat) : Int), .inr ⟨s + 1, rfl, by omega, Nat.le_refl _, c, fun u a b => by omega⟩, fun k => ?_⟩
      have hne : (rd (o.set p ((s + 1 : Nat) : Int)) (p : Int) == 0) = false := by
        rw [rd_set', if_pos ⟨rfl, hp⟩]; simp; omega
      rw [show k + 4 = k + 3 + 1 by omega, sweep_Owners.l3, if_pos (by omega), if_pos (by omega), if_pos (by omega), h0, show k + 3 = k + 2 + 1 by omega, sweep_Owners.j6, if_pos (show ((0 : Int) == 0) = true from rfl), if_pos (by omega), if_pos (by omega), if_pos c, if_pos (by omega), if_pos (by omega), Int.toNat_natCast, w64_id (by omega) (by omega), show k + 2 = k + 1 + 1 by omega, sweep_Owners.l3]
      by_cases d : ((s + 1 : Nat) : Int) - 1 > 0
      · rw [if_pos d, if_pos (by omega), if_pos (by rw [List.length_set]; omega), hne, sweep_Owners.j6, if_neg (by simp)]
      · rw [if_neg d, sweep_Owners.j6, if_neg (by simp)]
    · obtain ⟨N, r, h1, h2⟩ := ih o (by omega) hp h0
      refine ⟨N + 2, r, ?_, fun k => ?_⟩
      · rcases h1 with ⟨e, h1⟩ | ⟨z, e, z1, z2, z3, z4⟩
        · refine .inl ⟨e, fun z a b => ?_⟩
          rcases Nat.lt_or_ge s z with g | g
          · have : z = s + 1 := by omega
            subst this; omega
          · exact h1 z a g
        · refine .inr ⟨z, e, z1, by omega, z3, fun u a b => ?_⟩
          rcases Nat.lt_or_ge s u with g | g
          · have : u = s + 1 := by omega
            subst this; omega
          · exact z4 u a g
      · rw [show k + (N + 2) = k + N + 1 + 1 by omega, sweep_Owners.l3, if_pos (by omega), if_pos (by omega), if_pos (by omega), h0, sweep_Owners.j6, if_pos (show ((0 : Int) == 0) = true from rfl), if_pos (by omega), if_pos (by omega), if_neg c, w64_id (by omega) (by omega), show ((s + 1 : Nat) : Int) - 1 = (s : Int) by omega]
        exact h2 k
/-- One sample. -/
theorem own_one {M : List Mk} (hM : Srt M) {n n' : Nat} {col : Nat} (hb : ∀ j, j < n → ∀ hj : j < M.length, M[j].f0 < (col : Int)) (ha : ∀ j, n ≤ j → ∀ hj : j < M.length, (col : Int) ≤ M[j].f0)
    (h1 : n ≤ n') (hn' : n' ≤ M.length) (h2 : ∀ j, n ≤ j → j < n' → ∀ hj : j < M.length, M[j].f0 = (col : Int)) (h3 : ∀ hj : n' < M.length, M[n'].f0 ≠ (col : Int)) :
    (∀ j, j < n' → ∀ hj : j < M.length, M[j].f0 < ((col + 1 : Nat) : Int)) ∧ (∀ j, n' ≤ j → ∀ hj : j < M.length, ((col + 1 : Nat) : Int) ≤ M[j].f0) ∧
      ∀ st, ((M.take n').map (fun q => ind q.f1 st - ind q.f2 st)).sum = wmS M (col : Int) st := by
  have a1 : ∀ j, j < n' → ∀ hj : j < M.length, M[j].f0 < ((col + 1 : Nat) : Int) := by
    intro j g hj
    rcases Nat.lt_or_ge j n with c | c
    · have := hb j c hj; omega
    · have := h2 j c g hj; omega
  have a2 : ∀ j, n' ≤ j → ∀ hj : j < M.length, ((col + 1 : Nat) : Int) ≤ M[j].f0 := by
    intro j g hj
    have hk : n' < M.length := by omega
    have g1 := h3 hk
    have g2 := ha n' h1 hk
    rcases Nat.eq_or_lt_of_le g with e | e
    · subst e; omega
    · have := hM.1 n' j e hj hk; omega
  refine ⟨a1, a2, fun st => ?_⟩
  have e1 : M = M.take n' ++ M.drop n' := (List.take_append_drop n' M).symm
  have e2 : wmS (M.drop n') (col : Int) st = 0 := by
    have : ∀ q ∈ M.drop n', wiS (col : Int) st q = 0 := by
      intro q hq
      obtain ⟨j, hj, rfl⟩ := List.mem_iff_getElem.mp hq
      rw [List.getElem_drop]
      have hj' : n' + j < M.length := by rw [List.length_drop] at hj; omega
      have := a2 (n' + j) (by omega) hj'
      unfold wiS; rw [if_neg (by omega)]
    unfold wmS
    generalize M.drop n' = D at *
    clear e1
    induction D with
    | nil => rfl
    | cons q D ih => simp only [List.map_cons, List.sum_cons]; rw [this q (List.mem_cons_self ..), ih (fun z hz => this z (List.mem_cons_of_mem _ hz))]; rfl
  have e3 : wmS (M.take n') (col : Int) st = ((M.take n').map (fun q => ind q.f1 st - ind q.f2 st)).sum := by
    have : ∀ q ∈ M.take n', wiS (col : Int) st q = ind q.f1 st - ind q.f2 st := by
      intro q hq
      obtain ⟨j, hj, rfl⟩ := List.mem_iff_getElem.mp hq
      rw [List.getElem_take]
      have hj' : j < M.length ∧ j < n' := by rw [List.length_take] at hj; omega
      have := a1 j hj'.2 hj'.1
      unfold wiS; rw [if_pos (by omega)]
    unfold wmS
    rw [List.map_congr_left this]
  calc ((M.take n').map (fun q => ind q.f1 st - ind q.f2 st)).sum = wmS (M.take n') (col : Int) st := e3.symm
    _ = wmS (M.take n') (col : Int) st + wmS (M.drop n') (col : Int) st := by rw [e2, Int.add_zero]
    _ = wmS (M.take n' ++ M.drop n') (col : Int) st := (wmS_append _ _ _ _).symm
    _ = wmS M (col : Int) st := by rw [← e1]
/-- A row's samples. -/
theorem own_cols {cols rows : Nat} (hc : cols ≤ 1024) (hr : rows ≤ 1024) {l : List Sg} {M : List Mk} (hM : Srt M) (hl : M.length ≤ 1000) {row : Nat} (hrow : row < rows) (row' : Int) :
    ∀ (d i n : Nat) (wd : List Int) (top : Int) (o : List Int) (f : Nat → Nat → Int), d + i = cols → n ≤ M.length → Inv M n wd top → (∀ j, j < n → ∀ hj : j < M.length, M[j].f0 < (i : Int)) → (∀ j, n ≤ j → ∀ hj : j < M.length, (i : Int) ≤ M[j].f0) →
      Frm cols rows o f → (∀ c, i ≤ c → c < cols → f row c = 0) →
    ∃ (N : Nat) (o' : List Int) (g : Nat → Int), Frm cols rows o' (fun r c => if r = row ∧ i ≤ c then g c else f r c) ∧ (∀ c, i ≤ c → c < cols → Best (fun st => wmS M (c : Int) st) (g c)) ∧
      ∀ k, sweep_Owners.l1 (k + N) l (cols : Int) o (row : Int) M wd (n : Int) top (rows : Int) row' (cols : Int) (i : Int) = sweep_Owners.l0 k l (cols : Int) o' (rows : Int) (wrap64 (row' + 1)) := by
  intro d
  induction d with
  | zero =>
    intro i n wd top o f h hn hi hb ha hf hz
    refine ⟨1, o, fun _ => 0, hf.frmcong (fun r c _ hcc => by rw [if_neg (by omega)]), fun c g1 g2 => by omega, fun k => ?_⟩
    rw [sweep_Owners.l1, if_neg (by omega)]
  | succ d ih =>
    intro i n wd top o f h hn hi hb ha hf hz
    have hic : i < cols := by omega
    have hlt := place_lt (cols := cols) (rows := rows) hrow hic
    have hm : cols * rows ≤ 1024 * 1024 := Nat.mul_le_mul hc hr
    have hp : wrap64 ((row : Int) * (cols : Int)) + (i : Int) = ((row * cols + i : Nat) : Int) := by
      have e : (row : Int) * (cols : Int) = ((row * cols : Nat) : Int) := by simp
      rw [e, w64_id (by omega) (by omega)]; omega
    obtain ⟨N1, n', wd', top', q1, q2, q3, q4, q5, q6⟩ := own_l2 (l := l) hM hl (cols : Int) o (row : Int) (rows : Int) row' (cols : Int) (i : Int) ((row * cols + i : Nat) : Int) (M.length - n) n wd top (by omega) hi
    obtain ⟨u1, u2, u3⟩ := own_one hM hb ha q1 q2 q4 q5
    obtain ⟨t, ht⟩ : ∃ t : Nat, top' = (t : Int) := ⟨top'.toNat, by have := q3.2.2.1; omega⟩
    obtain ⟨N2, r, s1, s2⟩ := own_l3 (l := l) (M := M) (wd := wd') q3.1 (cols : Int) (row : Int) (rows : Int) row' (cols : Int) (i : Int) (n' : Int) top' (p := row * cols + i) t o (by have := q3.2.2.1; omega) (by rw [hf.1]; exact hlt) (by rw [hf.2 row i hrow hic]; exact hz i (Nat.le_refl _) hic)
    have hbest : Best (fun st => wmS M (i : Int) st) r := by
      have hw : ∀ z : Nat, z < 256 → rd wd' (z : Int) = wmS M (i : Int) (z : Int) := fun z hz' => (q3.2.1 z hz').trans (u3 (z : Int))
      have hhi : ∀ z : Nat, t < z → z < 256 → rd wd' (z : Int) = 0 := fun z g1 g2 => q3.2.2.2 z (by omega) g2
      rcases s1 with ⟨e, s1⟩ | ⟨z, e, z1, z2, z3, z4⟩
      · refine .inl ⟨e, fun s g1 g2 => ?_⟩
        obtain ⟨u, rfl⟩ : ∃ u : Nat, s = (u : Int) := ⟨s.toNat, by omega⟩
        dsimp only
        rw [← hw u (by omega)]
        rcases Nat.lt_or_ge t u with c | c
        · rw [hhi u c (by omega)]; omega
        · exact s1 u (by omega) c
      · have hz256 : z < 256 := by have := q3.2.2.1; omega
        refine .inr ⟨by omega, by omega, ?_, fun s g1 g2 => ?_⟩
        · dsimp only; rw [e, ← hw z hz256]; exact z3
        · obtain ⟨u, rfl⟩ : ∃ u : Nat, s = (u : Int) := ⟨s.toNat, by omega⟩
          dsimp only
          rw [← hw u (by omega)]
          rcases Nat.lt_or_ge t u with c | c
          · rw [hhi u c (by omega)]; omega
          · exact z4 u (by omega) c
    obtain ⟨N3, o', g, v1, v2, v3⟩ := ih (i + 1) n' wd' top' (o.set (row * cols + i) r) _ (by omega) q2 q3 u1 u2 (hf.frmset hrow hic r) (fun c g1 g2 => by rw [if_neg (by omega)]; exact hz c (by omega) g2)
    refine ⟨N3 + N2 + N1 + 1, o', fun c => if c = i then r else g c, v1.frmcong (fun r' c' _ _ => ?_), fun c g1 g2 => ?_, fun k => ?_⟩
    · by_cases e : r' = row ∧ c' = i
      · obtain ⟨rfl, rfl⟩ := e
        rw [if_neg (by omega), if_pos ⟨rfl, rfl⟩, if_pos ⟨rfl, Nat.le_refl _⟩]; exact (if_pos rfl).symm
      · by_cases e' : r' = row ∧ i + 1 ≤ c'
        · rw [if_pos e', if_pos (by omega)]; exact (if_neg (by omega)).symm
        · rw [if_neg e', if_neg e, if_neg (by omega)]
    · by_cases e : c = i
      · subst e; show Best _ (if c = c then r else g c); rw [if_pos rfl]; exact hbest
      · show Best _ (if c = i then r else g c); rw [if_neg e]; exact v2 c (by omega) g2
    · rw [ht] at s2
      rw [show k + (N3 + N2 + N1 + 1) = (k + N3) + N2 + N1 + 1 by omega, sweep_Owners.l1, if_pos (by omega), if_pos (by omega), hp, q6, ht, s2, w64_id (n := (i : Int) + 1) (by omega) (by omega), show (i : Int) + 1 = ((i + 1 : Nat) : Int) by omega]
      rw [ht] at v3
      exact v3 k
theorem sm_odd {r : Nat} (h : r < 1024) : oddP (sm r) := by unfold oddP sm; omega
theorem srt_of {l : List Sg} (hr : ∀ s ∈ l, segR s) {y C : Int} {M : List Mk} (hp : M.Perm (rawS l y C)) (hs : ∀ i j, i < j → ∀ (hj : j < M.length) (hi : i < M.length), M[i].f0 ≤ M[j].f0) : Srt M := by
  refine ⟨hs, fun q hq => ?_⟩
  have := hp.mem_iff.mp hq
  unfold rawS at this
  obtain ⟨s, h1, h2⟩ := List.mem_filterMap.mp this
  unfold mkS at h2
  split at h2
  · have e := Option.some.inj h2
    have hb := dn_bd (hr s h1)
    subst e
    dsimp only
    omega
  · cases h2
theorem row_w5 {row : Nat} (hr : row < 1024) : wrap64 ((row : Int) + 1) = ((row + 1 : Nat) : Int) := by rw [w64_id (by omega) (by omega)]; rfl
theorem row_w1 {row cols : Nat} (h : row * cols + cols ≤ 1048576) : wrap64 ((row : Int) * (cols : Int)) = ((row * cols : Nat) : Int) := by
  rw [← Int.natCast_mul]
  generalize row * cols = q at *
  exact w64_id (by omega) (by omega)
theorem row_w2 {row cols : Nat} (hr : row < 1024) (h : row * cols + cols ≤ 1048576) : wrap64 (wrap64 ((row : Int) + 1) * (cols : Int)) = ((row * cols : Nat) : Int) + (cols : Int) := by
  have e3 : (row + 1) * cols = row * cols + cols := by rw [Nat.add_mul, Nat.one_mul]
  rw [row_w5 hr, ← Int.natCast_mul, e3, Int.natCast_add]
  generalize row * cols = q at *
  exact w64_id (by omega) (by omega)
theorem row_w3 {row : Nat} (hr : row < 1024) : wrap64 (wrap64 (16 * (row : Int)) + 7) = sm row := by rw [w64_id (n := 16 * (row : Int)) (by omega) (by omega), w64_id (by omega) (by omega)]; rfl
/-- All rows. -/
theorem own_rows {cols rows : Nat} (h0 : 0 < cols) (hc : cols ≤ 1024) (hr : rows ≤ 1024) {l : List Sg} (hl : l.length ≤ 1000) (hs : ∀ s ∈ l, segR s) :
    ∀ (d row : Nat) (o : List Int) (f : Nat → Nat → Int), d + row = rows → Frm cols rows o f → (∀ r c, row ≤ r → r < rows → c < cols → f r c = 0) →
    ∃ (N : Nat) (o' : List Int) (g : Nat → Nat → Int), Frm cols rows o' (fun r c => if row ≤ r then g r c else f r c) ∧ (∀ r c, row ≤ r → r < rows → c < cols → Best (fun st => wS l st (sm c) (sm r)) (g r c)) ∧
      ∀ k, 2031 ≤ k → sweep_Owners.l0 (k + N) l (cols : Int) o (rows : Int) (row : Int) = some (o', 0) := by
  intro d
  induction d with
  | zero =>
    intro row o f h hf hz
    refine ⟨1, o, fun _ _ => 0, hf.frmcong (fun r c hrr _ => by rw [if_neg (by omega)]), fun r c g1 g2 => by omega, fun k _ => ?_⟩
    rw [sweep_Owners.l0, if_neg (by omega)]
  | succ d ih =>
    intro row o f h hf hz
    have hrow : row < rows := by omega
    have hm : cols * rows ≤ 1024 * 1024 := Nat.mul_le_mul hc hr
    have hle : (row + 1) * cols ≤ rows * cols := Nat.mul_le_mul_right _ hrow
    have hodd := sm_odd (r := row) (by omega)
    obtain ⟨M, m1, m2, m3⟩ := marks_eq (C := (cols : Int)) hl hs hodd 2031 (Nat.le_refl _)
    have hM := srt_of hs m2 m3
    have hlen : M.length ≤ 1000 := by have := m2.length_eq; have := raw_le l (sm row) (cols : Int); omega
    have hinv : Inv M 0 (List.replicate 256 0) 0 := by
      refine ⟨List.length_replicate, fun s hs' => ?_, by omega, fun s _ hs' => ?_⟩
      · rw [List.take_zero]
        unfold rd
        rw [Int.toNat_natCast, List.getD_eq_getElem?_getD, List.getElem?_replicate, if_pos hs']; rfl
      · unfold rd
        rw [Int.toNat_natCast, List.getD_eq_getElem?_getD, List.getElem?_replicate, if_pos hs']; rfl
    obtain ⟨N1, o1, g1, a1, a2, a3⟩ := own_cols hc hr (l := l) hM hlen hrow (row : Int) cols 0 0 (List.replicate 256 0) 0 o f (by omega) (Nat.zero_le _) hinv (fun j hj => by omega) (fun j _ hj => (hM.2 M[j] (List.getElem_mem _)).1) hf (fun c _ hcc => hz row c (Nat.le_refl _) hrow hcc)
    obtain ⟨N2, o2, g2, b1, b2, b3⟩ := ih (row + 1) o1 _ (by omega) a1 (fun r c e1 e2 e3 => by rw [if_neg (by omega)]; exact hz r c (by omega) e2 e3)
    refine ⟨N2 + N1 + 1, o2, fun r c => if r = row then g1 c else g2 r c, b1.frmcong (fun r c _ _ => ?_), fun r c e1 e2 e3 => ?_, fun k hk => ?_⟩
    · by_cases e : r = row
      · subst e; rw [if_neg (by omega), if_pos ⟨rfl, Nat.zero_le _⟩, if_pos (Nat.le_refl _)]; exact (if_pos rfl).symm
      · by_cases e' : row + 1 ≤ r
        · rw [if_pos e', if_pos (by omega)]; exact (if_neg e).symm
        · rw [if_neg e', if_neg (fun z => e z.1), if_neg (by omega)]
    · by_cases e : r = row
      · subst e
        show Best _ (if r = r then g1 c else g2 r c)
        rw [if_pos rfl]
        refine (a2 c (Nat.zero_le _) e3).cong (fun st _ _ => ?_)
        rw [wmS_perm m2, wm_raw hs hodd e3]
      · show Best _ (if r = row then g1 c else g2 r c)
        rw [if_neg e]; exact b2 r c (by omega) e2 e3
    · have e3 : (row + 1) * cols = row * cols + cols := by rw [Nat.add_mul, Nat.one_mul]
      have h5 : row * cols + cols ≤ cols * rows := by rw [← e3, Nat.mul_comm cols rows]; exact hle
      have h6 : row * cols + cols ≤ 1024 * 1024 := Nat.le_trans h5 hm
      have t1 : (row : Int) < (rows : Int) := Int.ofNat_lt.mpr hrow
      have t2 : (0 : Int) < (cols : Int) := Int.ofNat_lt.mpr h0
      have t3 : (0 : Int) ≤ ((row * cols : Nat) : Int) := Int.natCast_nonneg _
      have t4 : ((row * cols : Nat) : Int) + (cols : Int) ≤ (o.length : Int) := by rw [hf.1, ← Int.natCast_add]; exact Int.ofNat_le.mpr h5
      have m1' := at_rounds (sweep_marks.mono l (sm row) (cols : Int)) (Nat.le_trans hk (by rw [Nat.add_assoc]; exact Nat.le_add_right _ _)) (k' := k + N2 + N1) m1
      rw [show ((0 : Nat) : Int) = 0 from rfl] at a3
      have b3' := b3 k hk
      clear a1 a2 b1 b2 b3 m1 m2 m3 hM hinv hz hf hs
      have hr2 : row < 1024 := by omega
      have ek : k + (N2 + N1 + 1) = (k + N2) + N1 + 1 := by omega
      have h7 : row * cols + cols ≤ 1048576 := h6
      rw [ek, sweep_Owners.l0, if_pos t1, if_pos t2, row_w1 h7, row_w2 hr2 h7, row_w3 hr2, if_pos t3, if_pos rfl, if_pos t4, m1', Option.bind_some, a3, row_w5 hr2]
      exact b3'
theorem seg30_eq {l : List Sg} (hl : l.length ≤ 1000) : ∀ (d i k : Nat), d + i = l.length → d < k → ∃ r : Int, sweep_Seg_30.l0 k l (l.length : Int) (i : Int) = some r ∧ (0 ≤ r ↔ ∃ s ∈ l.drop i, ¬ segR s) := by
  intro d
  induction d with
  | zero =>
    intro i k h hk
    obtain ⟨k, rfl⟩ : ∃ m, k = m + 1 := ⟨k - 1, by omega⟩
    refine ⟨-1, ?_, ?_⟩
    · rw [sweep_Seg_30.l0, if_neg (by omega)]
    · rw [List.drop_of_length_le (by omega)]; simp
  | succ d ih =>
    intro i k h hk
    obtain ⟨k, rfl⟩ : ∃ m, k = m + 1 := ⟨k - 1, by omega⟩
    have hi : i < l.length := by omega
    rw [sweep_Seg_30.l0, if_pos (by omega), if_pos (by omega), if_pos (by omega), rds l i hi, drop_sg l i hi]
    unfold sweep_Owners_1.f
    rw [seg_eq, Option.bind_some, Option.bind_some]
    by_cases hp : segR l[i]
    · rw [decide_eq_true hp, if_neg (by simp), w64_id (by omega) (by omega), show (i : Int) + 1 = ((i + 1 : Nat) : Int) by omega]
      obtain ⟨r, e, hr⟩ := ih (i + 1) k (by omega) (by omega)
      refine ⟨r, e, hr.trans ⟨fun ⟨p, h1, h2⟩ => ⟨p, List.mem_cons_of_mem _ h1, h2⟩, ?_⟩⟩
      rintro ⟨p, h1, h2⟩
      rcases List.mem_cons.mp h1 with rfl | h1
      · exact absurd hp h2
      · exact ⟨p, h1, h2⟩
    · rw [decide_eq_false hp, if_pos (by simp)]
      exact ⟨i, rfl, fun _ => ⟨_, List.mem_cons_self .., hp⟩, fun _ => by omega⟩
theorem seg27_eq {l : List Sg} (hl : l.length ≤ 1000) (k : Nat) (hk : l.length < k) : sweep_Seg_27.f k l = some (!allS l) := by
  unfold sweep_Seg_27.f sweep_Seg_30.f
  obtain ⟨r, e, hr⟩ := seg30_eq hl l.length 0 k (by omega) hk
  rw [List.drop_zero] at hr
  rw [show (0 : Int) = ((0 : Nat) : Int) from rfl, e, Option.bind_some]
  congr 1
  cases hA : allS l with
  | true =>
    apply decide_eq_false
    intro h0
    obtain ⟨s, h1, h2⟩ := hr.mp h0
    exact h2 (allS_of hA s h1)
  | false =>
    apply decide_eq_true
    apply hr.mpr
    unfold allS at hA
    obtain ⟨s, h1, h2⟩ := List.all_eq_false.mp hA
    exact ⟨s, h1, by simpa using h2⟩
/-- What the program's Owners comes to. -/
theorem owners_eq {l : List Sg} (hl : l.length ≤ 1000) (w h : Int) : ∃ N, ∀ k, N ≤ k →
    (if (1 ≤ w ∧ w ≤ 256 ∧ 1 ≤ h ∧ h ≤ 256) ∧ allS l = true then ∃ (o : List Int) (g : Nat → Nat → Int), sweep_Owners.f k l w h = some (o, 0) ∧ Frm (4 * w).toNat (4 * h).toNat o g ∧ ∀ r c, r < (4 * h).toNat → c < (4 * w).toNat → Best (fun st => wS l st (sm c) (sm r)) (g r c) else sweep_Owners.f k l w h = some ([], 1)) := by
  by_cases hb : 1 ≤ w ∧ w ≤ 256 ∧ 1 ≤ h ∧ h ≤ 256
  · by_cases hp : allS l = true
    · obtain ⟨N, o, g, h1, h2, h3⟩ := own_rows (cols := (4 * w).toNat) (rows := (4 * h).toNat) (by omega) (by omega) (by omega) hl (allS_of hp) (4 * h).toNat 0 _ _ (by omega) (Frm.frmzero _ _) (fun _ _ _ _ _ => rfl)
      refine ⟨N + l.length + 2033, fun k hk => ?_⟩
      rw [if_pos ⟨hb, hp⟩]
      refine ⟨o, g, ?_, h1.frmcong (fun r c _ _ => by rw [if_pos (Nat.zero_le _)]), fun r c e1 e2 => h2 r c (Nat.zero_le _) e1 e2⟩
      unfold sweep_Owners.f
      rw [if_neg (by unfold mn; omega), if_neg (by unfold mx; omega), seg27_eq hl k (by omega), Option.bind_some, hp]
      obtain ⟨k, rfl⟩ : ∃ m, k = m + N + 1 := ⟨k - N - 1, by omega⟩
      have hm : (4 * w).toNat * (4 * h).toNat ≤ 1024 * 1024 := Nat.mul_le_mul (by omega) (by omega)
      have e1 : (4 * w) = (((4 * w).toNat : Nat) : Int) := by omega
      have e2 : (4 * h) = (((4 * h).toNat : Nat) : Int) := by omega
      have e3 : 4 * w * 4 * h = ((((4 * w).toNat * (4 * h).toNat : Nat)) : Int) := by
        rw [Int.natCast_mul, ← e1, ← e2]; grind
      have e4 : wrap64 (wrap64 (wrap64 (4 * w) * 4) * h) = (((4 * w).toNat * (4 * h).toNat : Nat) : Int) := by
        rw [w64_id (n := 4 * w) (by omega) (by omega), w64_id (n := 4 * w * 4) (by omega) (by omega), e3, w64_id (by omega) (by omega)]
      rw [sweep_Owners.j0, if_neg (by simp), e4, if_pos (by omega), Int.toNat_natCast, if_pos (by omega), w64_id (n := 4 * w) (by omega) (by omega), w64_id (n := 4 * h) (by omega) (by omega), e1, e2]
      exact h3 k (by omega)
    · refine ⟨l.length + 2, fun k hk => ?_⟩
      rw [if_neg (fun g => hp g.2)]
      unfold sweep_Owners.f
      rw [if_neg (by unfold mn; omega), if_neg (by unfold mx; omega), seg27_eq hl k (by omega), Option.bind_some, Bool.eq_false_iff.mpr hp]
      obtain ⟨k, rfl⟩ : ∃ m, k = m + 1 := ⟨k - 1, by omega⟩
      rw [sweep_Owners.j0, if_pos (show (!false) = true from rfl)]
  · refine ⟨2 + l.length, fun k hk => ?_⟩
    rw [if_neg (fun g => hb g.1)]
    unfold sweep_Owners.f
    have hj : sweep_Owners.j0 k l w h true = some ([], 1) := by
      obtain ⟨k, rfl⟩ : ∃ m, k = m + 1 := ⟨k - 1, by omega⟩
      rw [sweep_Owners.j0, if_pos rfl]
    by_cases g1 : mn w h < 1
    · rw [if_pos g1]; exact hj
    · rw [if_neg g1]
      by_cases g2 : mx w h > 256
      · rw [if_pos g2]; exact hj
      · exfalso; apply hb; unfold mn at g1; unfold mx at g2; omega
end Go.Proofs.Ytgmegmhioiljcaa.P
namespace Go.Proofs.Ytgmegmhioiljcaa.P
open Go.RowKit Go.Proofs.YtgmegmhioiljcaaW.PrintWords Go.Proofs.YtgmegmhioiljcaaW.PrintLast Go.Proofs.YtgmegmhioiljcaaW.PrintMore
theorem awake_at : celluloidlaw17_awake.f 300 = some true := by kernel_rfl
theorem awake_eq (k : Nat) (hk : 300 ≤ k) : celluloidlaw17_awake.f k = some true := at_rounds celluloidlaw17_awake.mono hk awake_at
end Go.Proofs.Ytgmegmhioiljcaa.P
namespace Go.Proofs.Ytgmegmhioiljcaa.Pure
open Go.RowKit Go.Proofs.Ytgmegmhioiljcaa.P Go.Proofs.YtgmegmhioiljcaaW.PrintWords Go.Proofs.YtgmegmhioiljcaaW.PrintLast Go.Proofs.YtgmegmhioiljcaaW.PrintMore
/-- A segment turned about. -/
def tnS (s : Sg) : Sg := ⟨⟨s.f1.f0, s.f1.f1⟩, ⟨s.f0.f0, s.f0.f1⟩, s.f3, s.f2⟩
theorem tn_seg (s : Sg) : segR (tnS s) ↔ segR s := by
  unfold segR tnS
  exact ⟨fun ⟨a, b, c, d⟩ => ⟨b, a, d, c⟩, fun ⟨a, b, c, d⟩ => ⟨b, a, d, c⟩⟩
theorem tn_dn {s : Sg} (h : s.f0.f1 ≠ s.f1.f1) : dnS (tnS s) = dnS s := by
  unfold dnS tnS
  dsimp only
  by_cases c : s.f0.f1 ≤ s.f1.f1
  · rw [if_neg (by omega), if_pos c]
  · rw [if_pos (by omega), if_neg c]
theorem level_hit {s : Sg} (r : segR s) (h : s.f0.f1 = s.f1.f1) {x y : Int} (hy : oddP y) : ¬ hit s x y := by
  have d : (dnS s).2.1 = s.f0.f1 ∧ (dnS s).2.2.2.1 = s.f0.f1 := by
    unfold dnS
    rw [if_pos (by omega)]
    exact ⟨rfl, h.symm⟩
  unfold hit hitV
  rw [d.1, d.2]
  rintro ⟨h1, h2, _⟩
  have := r.1.2.1
  have := hy.1
  omega
theorem cw_turn (s : Sg) (st x y : Int) (hy : oddP y) : cwS st x y (tnS s) = cwS st x y s := by
  unfold cwS
  by_cases r : segR s
  · have r' := (tn_seg s).mpr r
    by_cases lv : s.f0.f1 = s.f1.f1
    · rw [if_neg (fun z => level_hit r' (by exact lv.symm) hy z.2), if_neg (fun z => level_hit r lv hy z.2)]
    · have e := tn_dn lv
      have e1 : gvS (tnS s) = gvS s := by unfold gvS; rw [e]
      have e2 : tkS (tnS s) = tkS s := by unfold tkS; rw [e]
      have e3 : hit (tnS s) x y ↔ hit s x y := by unfold hit; rw [e]
      rw [e1, e2]
      by_cases q : hit s x y
      · rw [if_pos ⟨r', e3.mpr q⟩, if_pos ⟨r, q⟩]
      · rw [if_neg (fun z => q (e3.mp z.2)), if_neg (fun z => q z.2)]
  · rw [if_neg (fun z => r ((tn_seg s).mp z.1)), if_neg (fun z => r z.1)]
theorem turns_i {i : Nat} (h : i < 1024) : wrap64 ((i : Int) + 1) = ((i + 1 : Nat) : Int) := by rw [w64_id (by omega) (by omega)]; rfl
theorem turns_d {n i d : Nat} (hn : n ≤ 40) (h : d + 1 + i = n) : wrap64 (wrap64 ((n : Int) - 1) - (i : Int)) = (d : Int) := by
  rw [w64_id (n := (n : Int) - 1) (by omega) (by omega), w64_id (by omega) (by omega)]; omega
theorem turns_l1 {o q : List Int} (hl : o.length = q.length) (hb : o.length ≤ 1024) (he : ∀ i : Nat, i < o.length → rd o (i : Int) = rd q (i : Int)) :
    ∀ (d i k : Nat), d + i = o.length → d + 302 ≤ k → celluloidlaw17_SweepTurns.l1 k o q (o.length : Int) (i : Int) = some true := by
  intro d
  induction d with
  | zero =>
    intro i k h hk
    obtain ⟨k, rfl⟩ : ∃ m, k = m + 1 := ⟨k - 1, by omega⟩
    rw [celluloidlaw17_SweepTurns.l1, if_neg (by omega), awake_eq k (by omega)]; rfl
  | succ d ih =>
    intro i k h hk
    obtain ⟨k, rfl⟩ : ∃ m, k = m + 1 := ⟨k - 1, by omega⟩
    have hi : i < o.length := by omega
    have c0 : 0 ≤ (i : Int) := Int.natCast_nonneg i
    have c1 : (i : Int) < (o.length : Int) := by omega
    have c2 : (i : Int) < (q.length : Int) := by omega
    rw [celluloidlaw17_SweepTurns.l1, if_pos c1, if_pos c0, if_pos c1, if_pos c2, if_pos (he i hi), turns_i (by omega)]
    exact ih (i + 1) k (by omega) (by omega)
theorem turns_j2 {o q : List Int} (hl : o.length = q.length) (hb : o.length ≤ 1024) (he : ∀ i : Nat, i < o.length → rd o (i : Int) = rd q (i : Int)) (k : Nat) (hk : 1400 ≤ k) :
    celluloidlaw17_SweepTurns.j2 k o q ((o.length : Int) != (q.length : Int)) = some true := by
  obtain ⟨k, rfl⟩ : ∃ m, k = m + 1 := ⟨k - 1, by omega⟩
  have e : ((o.length : Int) != (q.length : Int)) = false := by rw [hl]; exact bne_self_eq_false _
  rw [e, celluloidlaw17_SweepTurns.j2, if_neg (by simp)]
  exact turns_l1 hl hb he o.length 0 k (by omega) (by omega)
/-- The rounds that turn: what comes out winds as what went in. -/
theorem turns_l0 {l : List Sg} (hl : l.length ≤ 40) (t w h : Int) : ∀ (d i : Nat) (acc : List Sg), d + i = l.length → acc.length = i →
    (∀ st x y, oddP y → wS acc st x y = wS (l.drop d) st x y) → ((∀ s ∈ acc, segR s) ↔ ∀ s ∈ l.drop d, segR s) →
    ∃ m : List Sg, m.length = l.length ∧ (∀ st x y, oddP y → wS m st x y = wS l st x y) ∧ ((∀ s ∈ m, segR s) ↔ ∀ s ∈ l, segR s) ∧
      ∀ k, celluloidlaw17_SweepTurns.l0 (k + d + 1) l t w h acc (l.length : Int) (i : Int) = celluloidlaw17_SweepTurns.l0 (k + 1) l t w h m (l.length : Int) (l.length : Int) := by
  intro d
  induction d with
  | zero =>
    intro i acc h1 h2 h3 h4
    rw [List.drop_zero] at h4
    refine ⟨acc, by omega, fun st x y hy => by rw [h3 st x y hy, List.drop_zero], h4, fun k => ?_⟩
    rw [show i = l.length by omega]
  | succ d ih =>
    intro i acc h1 h2 h3 h4
    have hd : d < l.length := by omega
    have c0 : 0 ≤ (i : Int) := Int.natCast_nonneg i
    have c1 : (i : Int) < (l.length : Int) := by omega
    have c2 : 0 ≤ (d : Int) := Int.natCast_nonneg d
    have c3 : (d : Int) < (l.length : Int) := by omega
    have key : ∀ q : Sg, (∀ st x y, oddP y → cwS st x y q = cwS st x y l[d]) → (segR q ↔ segR l[d]) →
        ∃ m : List Sg, m.length = l.length ∧ (∀ st x y, oddP y → wS m st x y = wS l st x y) ∧ ((∀ s ∈ m, segR s) ↔ ∀ s ∈ l, segR s) ∧
          ∀ k, celluloidlaw17_SweepTurns.l0 (k + d + 1) l t w h (acc ++ [q]) (l.length : Int) ((i + 1 : Nat) : Int) = celluloidlaw17_SweepTurns.l0 (k + 1) l t w h m (l.length : Int) (l.length : Int) := by
      intro q q1 q2
      refine ih (i + 1) (acc ++ [q]) (by omega) (by rw [List.length_append, h2]; rfl) (fun st x y hy => ?_) ?_
      · rw [wS_append, wS_cons, wS_nil, h3 st x y hy, drop_sg l d hd, wS_cons, q1 st x y hy]; omega
      · rw [drop_sg l d hd]
        simp only [List.mem_append, List.mem_cons, List.not_mem_nil, or_false, or_imp, forall_and, forall_eq]
        rw [q2, h4, and_comm]
    have hn : acc.length < 2932031007402 := by omega
    by_cases b : Go.bits .and .u64 (shr .u64 t (i : Int)) 1 = 1
    · obtain ⟨m, m1, m2, m3, m4⟩ := key (tnS l[d]) (fun st x y hy => cw_turn _ st x y hy) (tn_seg _)
      refine ⟨m, m1, m2, m3, fun k => ?_⟩
      rw [show k + (d + 1) + 1 = (k + d + 1) + 1 by omega, celluloidlaw17_SweepTurns.l0, if_pos c1, turns_d hl h1, if_pos c2, if_pos c3, if_pos c0, if_pos b, if_pos hn, rds l d hd, turns_i (by omega)]
      exact m4 k
    · obtain ⟨m, m1, m2, m3, m4⟩ := key l[d] (fun st x y hy => rfl) Iff.rfl
      refine ⟨m, m1, m2, m3, fun k => ?_⟩
      rw [show k + (d + 1) + 1 = (k + d + 1) + 1 by omega, celluloidlaw17_SweepTurns.l0, if_pos c1, turns_d hl h1, if_pos c2, if_pos c3, if_pos c0, if_neg b, if_pos hn, rds l d hd, turns_i (by omega)]
      exact m4 k
theorem turns_off (l : List Sg) (t w h : Int) (k : Nat) (hk : 301 ≤ k) : celluloidlaw17_SweepTurns.j0 k l t w h true = some true := by
  obtain ⟨k, rfl⟩ : ∃ m, k = m + 1 := ⟨k - 1, by omega⟩
  rw [celluloidlaw17_SweepTurns.j0, if_pos rfl, awake_eq k (by omega)]; rfl
theorem SweepTurns : celluloidlaw17_SweepTurns.Pure := by
  intro l a1 a2 a3 _ _ _ _
  by_cases g : (l.length : Int) > 40
  · exact ⟨301, by unfold celluloidlaw17_SweepTurns.f; rw [if_pos g]; exact turns_off l a1 a2 a3 301 (Nat.le_refl _)⟩
  by_cases g2 : a2 > 8
  · exact ⟨301, by unfold celluloidlaw17_SweepTurns.f; rw [if_neg g, if_pos g2]; exact turns_off l a1 a2 a3 301 (Nat.le_refl _)⟩
  by_cases g3 : a3 > 8
  · exact ⟨301, by unfold celluloidlaw17_SweepTurns.f; rw [if_neg g, if_neg g2, decide_eq_true g3]; exact turns_off l a1 a2 a3 301 (Nat.le_refl _)⟩
  have hl : l.length ≤ 40 := by omega
  obtain ⟨m, m1, m2, m3, m4⟩ := turns_l0 hl a1 a2 a3 l.length 0 [] (by omega) rfl (fun st x y _ => by rw [List.drop_length]) (by rw [List.drop_length])
  obtain ⟨N1, n1⟩ := owners_eq (l := l) (by omega) a2 a3
  obtain ⟨N2, n2⟩ := owners_eq (l := m) (by omega) a2 a3
  have h1 := n1 (N1 + N2 + 2000) (by omega)
  have h2 := n2 (N1 + N2 + 2000) (by omega)
  clear n1 n2
  refine ⟨N1 + N2 + 2000 + l.length + 1 + 1, ?_⟩
  unfold celluloidlaw17_SweepTurns.f
  rw [if_neg g, if_neg g2, decide_eq_false g3, celluloidlaw17_SweepTurns.j0, if_neg (by simp)]
  refine (m4 (N1 + N2 + 2000)).trans ?_
  rw [celluloidlaw17_SweepTurns.l0, if_neg (by omega)]
  by_cases c : (1 ≤ a2 ∧ a2 ≤ 256 ∧ 1 ≤ a3 ∧ a3 ≤ 256) ∧ allS l = true
  · rw [if_pos c] at h1
    rw [if_pos ⟨c.1, allS_yes (m3.mpr (allS_of c.2))⟩] at h2
    obtain ⟨o, p, e1, e2, e3⟩ := h1
    obtain ⟨q, r, f1, f2, f3⟩ := h2
    rw [e1, Option.bind_some, f1, Option.bind_some, if_pos rfl]
    have b1 : (4 * a2).toNat ≤ 32 := by omega
    have b2 : (4 * a3).toNat ≤ 32 := by omega
    have b0 : 0 < (4 * a2).toNat := by omega
    have hm : (4 * a2).toNat * (4 * a3).toNat ≤ 32 * 32 := Nat.mul_le_mul b1 b2
    have hoq : o.length = q.length := by rw [e2.1, f2.1]
    refine turns_j2 hoq (by rw [e2.1]; exact Nat.le_trans hm (by decide)) (fun i hi => ?_) _ (by omega)
    rw [e2.1] at hi
    have r1 : i / (4 * a2).toNat < (4 * a3).toNat := Nat.div_lt_of_lt_mul hi
    have r2 : i % (4 * a2).toNat < (4 * a2).toNat := Nat.mod_lt _ b0
    have x1 := e2.2 _ _ r1 r2
    have x2 := f2.2 _ _ r1 r2
    rw [Nat.div_add_mod' i] at x1 x2
    rw [x1, x2]
    refine (e3 _ _ r1 r2).unique ((f3 _ _ r1 r2).cong (fun s _ _ => m2 s _ _ (sm_odd (by omega))))
  · rw [if_neg c] at h1
    rw [if_neg (fun z => c ⟨z.1, allS_yes (m3.mp (allS_of z.2))⟩)] at h2
    rw [h1, Option.bind_some, h2, Option.bind_some, if_pos rfl]
    exact turns_j2 (o := []) (q := []) rfl (by decide) (fun i hi => absurd hi (Nat.not_lt_zero i)) _ (by omega)
end Go.Proofs.Ytgmegmhioiljcaa.Pure
