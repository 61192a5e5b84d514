/- A curve that is shifted by even units has its points shifted, and as many. (prune.py) -/
import Derived.Test.YtdhjcfgklbedjaaPx0
import Derived.Test.YtdhjcfgklbedjaaPx2
import Derived.Test.YtdhjcfgklbedjaaPx3
import Derived.Test.YtdhjcfgklbedjaaPx4
import Derived.Test.YtdhjcfgklbedjaaPx5
import Derived.Test.YtdhjcfgklbedjaaPx11
import Derived.Laws.BitsAllLaws
import Derived.Laws.MathBits
import Derived.Lib.BitFns
import Derived.Test.YtdhjcfgklbedjaaSayCurveShifts
namespace Go.Proofs.Ytdhjcfgklbedjaa.P
open Go.RowKit Go.Proofs.YtdhjcfgklbedjaaW.PrintWords Go.Proofs.YtdhjcfgklbedjaaW.PrintLast Go.Proofs.YtdhjcfgklbedjaaW.PrintMore
theorem u64_id {n : Int} (h0 : 0 ≤ n) (h1 : n < 18446744073709551616) : IntKind.u64.wrap n = n := by rw [IntKind.wrap_u64]; omega
theorem w64_id {n : Int} (h0 : -9223372036854775808 ≤ n) (h1 : n < 9223372036854775808) : wrap64 n = n := by unfold wrap64; omega
structure Digit (u v v1 v0 u1 Q : Int) : Prop where
  hv : v = v1 * 4294967296 + v0
  v0a : 0 ≤ v0
  v0b : v0 < 4294967296
  v1a : 2147483648 ≤ v1
  v1b : v1 < 4294967296
  ua : 0 ≤ u
  ub : u < v
  u1a : 0 ≤ u1
  u1b : u1 < 4294967296
  qa : Q * v ≤ u * 4294967296 + u1
  qb : u * 4294967296 + u1 < Q * v + v
theorem lt_of_mul {a b v : Int} (hv : 0 < v) (h : a * v < b * v) : a < b := by
  rcases Int.lt_or_le a b with h1 | h1
  · exact h1
  · have := Int.mul_le_mul_of_nonneg_right h1 (Int.le_of_lt hv); omega
namespace Digit
variable {u v v1 v0 u1 Q : Int}
theorem vpos (d : Digit u v v1 v0 u1 Q) : 0 < v := by have := d.hv; have := d.v1a; have := d.v0a; omega
theorem q0 (d : Digit u v v1 v0 u1 Q) : 0 ≤ Q := by
  have h := d.qb; have := d.ua; have := d.u1a; have hv := d.vpos
  have : -1 < Q := lt_of_mul hv (by have : (Q + 1) * v = Q * v + v := by rw [Int.add_mul, Int.one_mul]
                                    omega)
  omega
theorem qB (d : Digit u v v1 v0 u1 Q) : Q < 4294967296 := by
  have h := d.qa; have := d.ub; have := d.u1b; have hv := d.vpos
  exact lt_of_mul hv (by omega)
theorem below (d : Digit u v v1 v0 u1 Q) {q : Int} (h : u * 4294967296 + u1 < q * v) : Q < q := lt_of_mul d.vpos (by have := d.qa; omega)
theorem above (d : Digit u v v1 v0 u1 Q) {q : Int} (h : q * v ≤ u * 4294967296 + u1) : q ≤ Q := by
  have : q < Q + 1 := lt_of_mul d.vpos (by have := d.qb; rw [Int.add_mul, Int.one_mul]; omega)
  omega
theorem prod (d : Digit u v v1 v0 u1 Q) {q r : Int} (h : q * v1 + r = u) : q * v = (u - r) * 4294967296 + q * v0 := by
  rw [d.hv, Int.mul_add, ← Int.mul_assoc, show q * v1 = u - r by omega]
/-- The test says yes: the guess is too great. -/
theorem yes (d : Digit u v v1 v0 u1 Q) {q r : Int} (h : q * v1 + r = u) (ht : 4294967296 ≤ q ∨ 4294967296 * r + u1 < q * v0) : Q ≤ q - 1 := by
  rcases ht with ht | ht
  · have := d.qB; omega
  · have := d.below (q := q) (by rw [d.prod h]; omega); omega
/-- It says no: the guess is right. -/
theorem no (d : Digit u v v1 v0 u1 Q) {q r : Int} (h : q * v1 + r = u) (hq : Q ≤ q) (ht : q * v0 ≤ 4294967296 * r + u1) : q = Q := by
  have := d.above (q := q) (by rw [d.prod h]; omega); omega
/-- What is left over is great: the guess is right. -/
theorem out (d : Digit u v v1 v0 u1 Q) {q r : Int} (h : q * v1 + r = u) (hq : Q ≤ q) (hB : q ≤ 4294967296) (hr : 4294967296 ≤ r) : q = Q := by
  refine d.no h hq ?_
  have h0 := d.q0
  have h1 : q * v0 ≤ 4294967296 * v0 := Int.mul_le_mul_of_nonneg_right hB d.v0a
  have := d.v0b; have := d.u1a; omega
theorem small (d : Digit u v v1 v0 u1 Q) {q : Int} (h0 : 0 ≤ q) (h1 : q < 4294967296) : 0 ≤ q * v0 ∧ q * v0 < 18446744073709551616 := by
  have h2 : q * v0 ≤ 4294967295 * v0 := Int.mul_le_mul_of_nonneg_right (by omega) d.v0a
  have := d.v0b
  exact ⟨Int.mul_nonneg h0 d.v0a, by omega⟩
/-- The first guess. -/
theorem init (d : Digit u v v1 v0 u1 Q) : Q ≤ u / v1 ∧ u / v1 ≤ 4294967297 ∧ u / v1 * v1 + (u - u / v1 * v1) = u ∧ 0 ≤ u - u / v1 * v1 ∧ u - u / v1 * v1 < v1 := by
  have h1 := d.v1a
  have hd := Int.mul_ediv_add_emod u v1
  have hm := Int.emod_nonneg u (show v1 ≠ 0 by omega)
  have hl := Int.emod_lt_of_pos u (show 0 < v1 by omega)
  rw [Int.mul_comm] at hd
  refine ⟨?_, ?_, by omega, by omega, by omega⟩
  · rw [Int.le_ediv_iff_mul_le (by omega)]
    have h := d.qa; rw [d.hv, Int.mul_add, ← Int.mul_assoc] at h
    have := Int.mul_nonneg d.q0 d.v0a; have := d.u1b
    omega
  · have : u / v1 < 4294967298 := by
      rw [Int.ediv_lt_iff_lt_mul (by omega)]
      have := d.ub; have := d.hv; have := d.v0b; omega
    omega
end Digit
/-- What is left behind a digit, modulo 2^64. -/
theorem rest_wrap {u v u1 Q : Int} (h0 : Q * v ≤ u * 4294967296 + u1) (h1 : u * 4294967296 + u1 < Q * v + v) (hv : v < 18446744073709551616) :
    IntKind.u64.wrap (IntKind.u64.wrap (IntKind.u64.wrap (u * 4294967296) + u1) - IntKind.u64.wrap (Q * v)) = u * 4294967296 + u1 - Q * v := by
  simp only [IntKind.wrap_u64]
  generalize Q * v = z at *
  omega
theorem div_l1 {u v v1 v0 u1 Q q1 s : Int} (d : Digit u v v1 v0 u1 Q) (hv : v < 18446744073709551616) (hs : 0 ≤ s) :
    ∀ (n k : Nat) (q r : Int), q * v1 + r = u → Q ≤ q → q ≤ 4294967297 → 0 ≤ r → r < 4294967296 → 4294967296 - r ≤ n * 2147483648 → 2 * n + 2 ≤ k →
    bits_Div64.l1 k v s v1 v0 u1 q1 r u q = some (IntKind.u64.wrap (IntKind.u64.wrap (q1 * 4294967296) + Q), shr .u64 (u * 4294967296 + u1 - Q * v) s) := by
  intro n
  induction n with
  | zero => intro k q r h hQ hq hr0 hr1 hn hk; omega
  | succ n ih =>
    intro k q r h hQ hq hr0 hr1 hn hk
    obtain ⟨k, rfl⟩ : ∃ m, k = m + 2 := ⟨k - 2, by omega⟩
    have hQ0 := d.q0; have h1a := d.v1a; have h1b := d.v1b; have hua := d.u1a; have hub := d.u1b
    have key : ∀ b : Bool, (b = true ↔ (4294967296 ≤ q ∨ 4294967296 * r + u1 < q * v0)) →
        bits_Div64.j4 (k + 1) v s v1 v0 u1 q1 r u q b = some (IntKind.u64.wrap (IntKind.u64.wrap (q1 * 4294967296) + Q), shr .u64 (u * 4294967296 + u1 - Q * v) s) := by
      intro b hb
      simp only [bits_Div64.j4]
      cases b with
      | true =>
        have ht := hb.mp rfl
        have hy := d.yes h ht
        rw [if_pos rfl, u64_id (n := r + v1) (by omega) (by omega), u64_id (n := q - 1) (by omega) (by omega)]
        have h' : (q - 1) * v1 + (r + v1) = u := by rw [Int.sub_mul, Int.one_mul]; omega
        by_cases hr' : 4294967296 ≤ r + v1
        · rw [if_pos hr', if_pos hs, d.out h' hy (by omega) hr', rest_wrap d.qa d.qb hv]
        · rw [if_neg hr']
          exact ih k (q - 1) (r + v1) h' hy (by omega) (by omega) (by omega) (by omega) (by omega)
      | false =>
        have ht : ¬ (4294967296 ≤ q ∨ 4294967296 * r + u1 < q * v0) := fun h => by have := hb.mpr h; cases this
        have e := d.no h hQ (by omega)
        rw [if_neg (by simp), if_pos hs, e, rest_wrap d.qa d.qb hv]
    simp only [bits_Div64.l1]
    by_cases hq' : 4294967296 ≤ q
    · rw [if_pos hq']; exact key true ⟨fun _ => .inl hq', fun _ => rfl⟩
    · rw [if_neg hq']
      have hsm := d.small (q := q) (by omega) (by omega)
      refine key _ ?_
      rw [u64_id (n := q * v0) hsm.1 hsm.2, u64_id (n := 4294967296 * r) (by omega) (by omega), u64_id (n := 4294967296 * r + u1) (by omega) (by omega), decide_eq_true_eq]
      omega
theorem div_j2 {v v1 v0 u1 Q s u2 u0 Q1 : Int} (d1 : Digit u2 v v1 v0 u1 Q1) (d : Digit (u2 * 4294967296 + u1 - Q1 * v) v v1 v0 u0 Q) (hv : v < 18446744073709551616) (hs : 0 ≤ s) (k : Nat) (hk : 7 ≤ k) :
    bits_Div64.j2 k v s v1 v0 u2 u1 u0 Q1 = some (IntKind.u64.wrap (IntKind.u64.wrap (Q1 * 4294967296) + Q), shr .u64 ((u2 * 4294967296 + u1 - Q1 * v) * 4294967296 + u0 - Q * v) s) := by
  obtain ⟨k, rfl⟩ : ∃ m, k = m + 1 := ⟨k - 1, by omega⟩
  have h1 := d.v1a; have h2 := d.v1b; have hua := d.ua; have hub := d.ub
  simp only [bits_Div64.j2]
  rw [if_neg (by omega), rest_wrap d1.qa d1.qb hv]
  generalize hu : u2 * 4294967296 + u1 - Q1 * v = u at *
  obtain ⟨i1, i2, i3, i4, i5⟩ := d.init
  have h0 : 0 ≤ u / v1 := Int.ediv_nonneg hua (by omega)
  rw [Int.tdiv_eq_ediv_of_nonneg hua, u64_id (n := u / v1) h0 (by omega)]
  have e : IntKind.u64.wrap (u - IntKind.u64.wrap (u / v1 * v1)) = u - u / v1 * v1 := by
    have : 0 ≤ u / v1 * v1 := Int.mul_nonneg h0 (by omega)
    rw [u64_id (n := u / v1 * v1) this (by omega), u64_id (by omega) (by omega)]
  rw [e]
  exact div_l1 d hv hs 2 k (u / v1) (u - u / v1 * v1) i3 i1 i2 i4 (by omega) (by omega) (by omega)
theorem div_l0 {u v v1 v0 u1 u0 Q Q0 s : Int} (d : Digit u v v1 v0 u1 Q) (d0 : Digit (u * 4294967296 + u1 - Q * v) v v1 v0 u0 Q0) (hv : v < 18446744073709551616) (hs : 0 ≤ s) :
    ∀ (n k : Nat) (q r : Int), q * v1 + r = u → Q ≤ q → q ≤ 4294967297 → 0 ≤ r → r < 4294967296 → 4294967296 - r ≤ n * 2147483648 → 2 * n + 9 ≤ k →
    bits_Div64.l0 k v s v1 v0 u u1 u0 q r = some (IntKind.u64.wrap (IntKind.u64.wrap (Q * 4294967296) + Q0), shr .u64 ((u * 4294967296 + u1 - Q * v) * 4294967296 + u0 - Q0 * v) s) := by
  intro n
  induction n with
  | zero => intro k q r h hQ hq hr0 hr1 hn hk; omega
  | succ n ih =>
    intro k q r h hQ hq hr0 hr1 hn hk
    obtain ⟨k, rfl⟩ : ∃ m, k = m + 2 := ⟨k - 2, by omega⟩
    have hQ0 := d.q0; have h1a := d.v1a; have h1b := d.v1b; have hua := d.u1a; have hub := d.u1b
    have key : ∀ b : Bool, (b = true ↔ (4294967296 ≤ q ∨ 4294967296 * r + u1 < q * v0)) →
        bits_Div64.j1 (k + 1) v s v1 v0 u u1 u0 q r b = some (IntKind.u64.wrap (IntKind.u64.wrap (Q * 4294967296) + Q0), shr .u64 ((u * 4294967296 + u1 - Q * v) * 4294967296 + u0 - Q0 * v) s) := by
      intro b hb
      simp only [bits_Div64.j1]
      cases b with
      | true =>
        have ht := hb.mp rfl
        have hy := d.yes h ht
        rw [if_pos rfl, u64_id (n := r + v1) (by omega) (by omega), u64_id (n := q - 1) (by omega) (by omega)]
        have h' : (q - 1) * v1 + (r + v1) = u := by rw [Int.sub_mul, Int.one_mul]; omega
        by_cases hr' : 4294967296 ≤ r + v1
        · rw [if_pos hr', d.out h' hy (by omega) hr']
          exact div_j2 d d0 hv hs k (by omega)
        · rw [if_neg hr']
          exact ih k (q - 1) (r + v1) h' hy (by omega) (by omega) (by omega) (by omega) (by omega)
      | false =>
        have ht : ¬ (4294967296 ≤ q ∨ 4294967296 * r + u1 < q * v0) := fun h => by have := hb.mpr h; cases this
        have e := d.no h hQ (by omega)
        rw [if_neg (by simp), e]
        exact div_j2 d d0 hv hs k (by omega)
    simp only [bits_Div64.l0]
    by_cases hq' : 4294967296 ≤ q
    · rw [if_pos hq']; exact key true ⟨fun _ => .inl hq', fun _ => rfl⟩
    · rw [if_neg hq']
      have hsm := d.small (q := q) (by omega) (by omega)
      refine key _ ?_
      rw [u64_id (n := q * v0) hsm.1 hsm.2, u64_id (n := 4294967296 * r) (by omega) (by omega), u64_id (n := 4294967296 * r + u1) (by omega) (by omega), decide_eq_true_eq]
      omega
theorem bitLen_low : ∀ (f x : Nat), x ≠ 0 → x < 2 ^ f → 2 ^ (Lib.bitLenAux f x - 1) ≤ x ∧ x < 2 ^ Lib.bitLenAux f x ∧ 1 ≤ Lib.bitLenAux f x ∧ Lib.bitLenAux f x ≤ f := by
  intro f
  induction f with
  | zero => intro x h0 h1; simp at h1; omega
  | succ f ih =>
    intro x h0 h1
    simp only [Lib.bitLenAux]
    rw [if_neg h0]
    by_cases hx : x / 2 = 0
    · have : x = 1 := by omega
      subst this
      have : Lib.bitLenAux f (1 / 2) = 0 := by cases f <;> simp [Lib.bitLenAux]
      rw [this]; simp
    · obtain ⟨a, b, c, e⟩ := ih (x / 2) hx (by rw [Nat.pow_succ] at h1; omega)
      have e1 : 1 + Lib.bitLenAux f (x / 2) - 1 = (Lib.bitLenAux f (x / 2) - 1) + 1 := by omega
      refine ⟨?_, ?_, by omega, by omega⟩
      · rw [e1, Nat.pow_succ]; omega
      · rw [Nat.add_comm 1, Nat.pow_succ]; omega
theorem bitLen_bounds (x : Nat) (h0 : x ≠ 0) (h1 : x < 18446744073709551616) : 2 ^ (Lib.bitLen x - 1) ≤ x ∧ x < 2 ^ Lib.bitLen x ∧ 1 ≤ Lib.bitLen x ∧ Lib.bitLen x ≤ 64 :=
  bitLen_low 64 x h0 h1
theorem or_add (p : Nat) (a b : Nat) (hb : b < 2 ^ p) : (a * 2 ^ p) ||| b = a * 2 ^ p + b := by
  rw [Nat.mul_comm, Nat.two_pow_add_eq_or_of_lt hb]
/-- The shift: how far, what the numbers become. -/
theorem div_setup (hi lo y : Nat) (hy : hi < y) (hy1 : y < 18446744073709551616) (hl : lo < 18446744073709551616) :
    ∃ s : Nat, s < 64 ∧ 64 - Lib.bitLen y = s ∧ 9223372036854775808 ≤ y * 2 ^ s ∧ y * 2 ^ s < 18446744073709551616 ∧ hi * 2 ^ s < 18446744073709551616 ∧
      lo / 2 ^ (64 - s) < 2 ^ s ∧ (hi * 18446744073709551616 + lo) * 2 ^ s = (hi * 2 ^ s + lo / 2 ^ (64 - s)) * 18446744073709551616 + lo * 2 ^ s % 18446744073709551616 := by
  obtain ⟨h1, h2, h3, h4⟩ := bitLen_bounds y (by omega) hy1
  generalize hL : Lib.bitLen y = L at *
  refine ⟨64 - L, by omega, rfl, ?_, ?_, ?_, ?_, ?_⟩
  · have : (9223372036854775808 : Nat) = 2 ^ (L - 1) * 2 ^ (64 - L) := by rw [← Nat.pow_add, show L - 1 + (64 - L) = 63 by omega]
    rw [this]; exact Nat.mul_le_mul_right _ h1
  · have : (18446744073709551616 : Nat) = 2 ^ L * 2 ^ (64 - L) := by rw [← Nat.pow_add, show L + (64 - L) = 64 by omega]
    rw [this]; exact Nat.mul_lt_mul_of_pos_right h2 (Nat.two_pow_pos _)
  · have : (18446744073709551616 : Nat) = 2 ^ L * 2 ^ (64 - L) := by rw [← Nat.pow_add, show L + (64 - L) = 64 by omega]
    rw [this]; exact Nat.mul_lt_mul_of_pos_right (by omega) (Nat.two_pow_pos _)
  · rw [show 64 - (64 - L) = L by omega, Nat.div_lt_iff_lt_mul (Nat.two_pow_pos _), ← Nat.pow_add, show 64 - L + L = 64 by omega]; exact hl
  · rw [show 64 - (64 - L) = L by omega]
    have hp : (18446744073709551616 : Nat) = 2 ^ L * 2 ^ (64 - L) := by rw [← Nat.pow_add, show L + (64 - L) = 64 by omega]
    have h := Nat.div_add_mod (lo * 2 ^ (64 - L)) 18446744073709551616
    have e : lo * 2 ^ (64 - L) / 18446744073709551616 = lo / 2 ^ L := by
      rw [hp]; exact Nat.mul_div_mul_right _ _ (Nat.two_pow_pos _)
    rw [e] at h
    rw [Nat.add_mul, Nat.add_mul, Nat.mul_assoc, Nat.mul_comm 18446744073709551616 (2 ^ (64 - L)), ← Nat.mul_assoc]
    omega
theorem shl_nat (x s : Nat) (hs : s < 64) : shl .u64 (x : Int) (s : Int) = ((x * 2 ^ s % 18446744073709551616 : Nat) : Int) := by
  unfold shl
  rw [IntKind.wrap_u64, show min ((s : Int).toNat) (IntKind.u64.bits) = s by simp [IntKind.bits]; omega]
  simp
theorem shr_nat (x s : Nat) (hs : s ≤ 64) : shr .u64 (x : Int) (s : Int) = ((x / 2 ^ s : Nat) : Int) := by
  unfold shr
  rw [show min ((s : Int).toNat) (IntKind.u64.bits) = s by simp [IntKind.bits]; omega]
  simp
/-- A digit, out of the division itself. -/
theorem Digit.of {u v v1 v0 u1 : Int} (hv : v = v1 * 4294967296 + v0) (v0a : 0 ≤ v0) (v0b : v0 < 4294967296) (v1a : 2147483648 ≤ v1) (v1b : v1 < 4294967296) (ua : 0 ≤ u) (ub : u < v) (u1a : 0 ≤ u1) (u1b : u1 < 4294967296) :
    Digit u v v1 v0 u1 ((u * 4294967296 + u1) / v) := by
  have h := Int.mul_ediv_add_emod (u * 4294967296 + u1) v
  have hm := Int.emod_nonneg (u * 4294967296 + u1) (show v ≠ 0 by omega)
  have hl := Int.emod_lt_of_pos (u * 4294967296 + u1) (show 0 < v by omega)
  rw [Int.mul_comm] at h
  exact ⟨hv, v0a, v0b, v1a, v1b, ua, ub, u1a, u1b, by omega, by omega⟩
/-- math/bits.Div64: the quotient, and what is left over. -/
theorem div64_eq (hi lo y : Nat) (hy : hi < y) (hy1 : y < 18446744073709551616) (hl : lo < 18446744073709551616) (k : Nat) (hk : 20 ≤ k) :
    bits_Div64.f k hi lo y = some ((((hi * 18446744073709551616 + lo) / y : Nat) : Int), (((hi * 18446744073709551616 + lo) % y : Nat) : Int)) := by
  unfold bits_Div64.f
  rw [if_neg (by omega), if_neg (by omega)]
  by_cases h0 : hi = 0
  · subst h0
    rw [if_pos (show ((0 : Nat) : Int) = 0 from rfl), Int.tdiv_eq_ediv_of_nonneg (by omega), Int.tmod_eq_emod_of_nonneg (by omega)]
    have : lo / y ≤ lo := Nat.div_le_self _ _
    rw [Nat.zero_mul, Nat.zero_add, ← Int.natCast_ediv, ← Int.natCast_emod]
    generalize lo / y = z at *
    rw [u64_id (by omega) (by omega)]
  · rw [if_neg (by omega)]
    obtain ⟨s, hs, hL, a1, a2, a3, a4, a5⟩ := div_setup hi lo y hy hy1 hl
    obtain ⟨_, _, l1, l2⟩ := bitLen_bounds y (by omega) hy1
    have e0 : bits_LeadingZeros64.f (y : Int) = some (s : Int) := by
      unfold bits_LeadingZeros64.f bits_Len64.f
      rw [if_pos (by omega)]
      simp only [Option.bind_some, Int.toNat_natCast]
      rw [w64_id (by omega) (by omega)]
      congr 1; omega
    rw [e0]
    simp only [Option.bind_some]
    rw [u64_id (n := (s : Int)) (by omega) (by omega), if_pos (by omega), u64_id (n := 64 - (s : Int)) (by omega) (by omega), if_pos (by omega)]
    have e1 : (64 : Int) - (s : Int) = ((64 - s : Nat) : Int) := by omega
    rw [e1, shl_nat y s hs, shl_nat hi s hs, shl_nat lo s hs, shr_nat lo (64 - s) (by omega), Nat.mod_eq_of_lt a2, Nat.mod_eq_of_lt a3]
    rw [u64_or_nat _ _ a3 (by have : 2 ^ s ≤ 2 ^ 63 := Nat.pow_le_pow_right (by omega) (by omega); omega), or_add s hi _ a4]
    generalize hV : y * 2 ^ s = V at *
    generalize hU : hi * 2 ^ s + lo / 2 ^ (64 - s) = U at *
    generalize hR : lo * 2 ^ s % 18446744073709551616 = R at *
    have hR1 : R < 18446744073709551616 := by omega
    have hUV : U < V := by
      have h1 : (hi + 1) * 2 ^ s ≤ V := by rw [← hV]; exact Nat.mul_le_mul_right _ hy
      rw [Nat.add_mul, Nat.one_mul] at h1
      omega
    rw [and_low32 _ (by omega) (by omega), and_low32 _ (by omega) (by omega)]
    rw [if_neg (by omega)]
    have d1 := Digit.of (u := U) (v := V) (v1 := (V : Int) / 4294967296) (v0 := (V : Int) % 4294967296) (u1 := (R : Int) / 4294967296) (by omega) (by omega) (by omega) (by omega) (by omega) (by omega) (by omega) (by omega) (by omega)
    generalize hQ1 : ((U : Int) * 4294967296 + (R : Int) / 4294967296) / (V : Int) = Q1 at *
    have b1 := d1.qa
    have b2 := d1.qb
    have d0 := Digit.of (u := (U : Int) * 4294967296 + (R : Int) / 4294967296 - Q1 * V) (v := V) (v1 := (V : Int) / 4294967296) (v0 := (V : Int) % 4294967296) (u1 := (R : Int) % 4294967296) (by omega) (by omega) (by omega) (by omega) (by omega) (by omega) (by omega) (by omega) (by omega)
    generalize hQ0 : (((U : Int) * 4294967296 + (R : Int) / 4294967296 - Q1 * V) * 4294967296 + (R : Int) % 4294967296) / (V : Int) = Q0 at *
    obtain ⟨i1, i2, i3, i4, i5⟩ := d1.init
    have hq := Int.ediv_nonneg (a := (U : Int)) (b := (V : Int) / 4294967296) (by omega) (by omega)
    have hq2 := Int.mul_nonneg hq (show 0 ≤ (V : Int) / 4294967296 by omega)
    rw [Int.tdiv_eq_ediv_of_nonneg (by omega), u64_id (n := (U : Int) / ((V : Int) / 4294967296)) hq (by omega),
      u64_id (n := (U : Int) / ((V : Int) / 4294967296) * ((V : Int) / 4294967296)) hq2 (by omega), u64_id (n := (U : Int) - (U : Int) / ((V : Int) / 4294967296) * ((V : Int) / 4294967296)) (by omega) (by omega)]
    rw [div_l0 d1 d0 (by omega) (by omega) 2 k _ _ i3 i1 i2 i4 (by omega) (by omega) (by omega)]
    have c1 := d0.qa
    have c2 := d0.qb
    have c3 := d1.q0
    have c4 := d1.qB
    have c5 := d0.q0
    have c6 := d0.qB
    rw [u64_id (n := Q1 * 4294967296) (by omega) (by omega), u64_id (by omega) (by omega)]
    -- what it comes to
    obtain ⟨q, hq'⟩ := Int.eq_ofNat_of_zero_le (show 0 ≤ Q1 * 4294967296 + Q0 by omega)
    obtain ⟨r, hr'⟩ := Int.eq_ofNat_of_zero_le (show 0 ≤ ((U : Int) * 4294967296 + (R : Int) / 4294967296 - Q1 * V) * 4294967296 + (R : Int) % 4294967296 - Q0 * V by omega)
    rw [hr', shr_nat r s (by omega), hq']
    have hrV : r < V := by omega
    have hsum : (hi * 18446744073709551616 + lo) * 2 ^ s = q * V + r := by
      rw [a5]
      have hqV : (q : Int) * V = Q1 * V * 4294967296 + Q0 * V := by
        rw [← hq', Int.add_mul, Int.mul_assoc, Int.mul_comm 4294967296, ← Int.mul_assoc]
      have : ((U * 18446744073709551616 + R : Nat) : Int) = ((q * V + r : Nat) : Int) := by
        rw [Int.natCast_add, Int.natCast_add, Int.natCast_mul q V, hqV]
        omega
      exact Int.natCast_inj.mp this
    obtain ⟨M, hM⟩ : ∃ M, M = hi * 18446744073709551616 + lo := ⟨_, rfl⟩
    rw [← hM] at hsum ⊢
    have hp := Nat.two_pow_pos s
    have hdiv : M / y = q := by
      have : M * 2 ^ s / (y * 2 ^ s) = q := by
        rw [hsum, hV]
        rw [Nat.mul_comm q V, Nat.mul_add_div (by omega), Nat.div_eq_of_lt hrV]; rfl
      rwa [Nat.mul_div_mul_right _ _ hp] at this
    have hmod : M % y = r / 2 ^ s := by
      have : M * 2 ^ s % (y * 2 ^ s) = r := by
        rw [hsum, hV, Nat.mul_comm q V, Nat.mul_add_mod, Nat.mod_eq_of_lt hrV]
      rw [Nat.mul_mod_mul_right] at this
      rw [← this, Nat.mul_div_cancel _ hp]
    rw [hdiv, hmod]
end Go.Proofs.Ytdhjcfgklbedjaa.P
namespace Go.Proofs.Ytdhjcfgklbedjaa.P
open Go.RowKit Go.Proofs.YtdhjcfgklbedjaaW.PrintWords Go.Proofs.YtdhjcfgklbedjaaW.PrintLast Go.Proofs.YtdhjcfgklbedjaaW.PrintMore
/-- Is it a number of 64 bits? -/
def I64 (x : Int) : Prop := -9223372036854775808 ≤ x ∧ x ≤ 9223372036854775807
instance (x : Int) : Decidable (I64 x) := by unfold I64; infer_instance
/-- A number and true, or 0 and false. -/
def num (x : Int) : Int × Bool := if I64 x then (x, true) else (0, false)
theorem num_yes {x : Int} (h : I64 x) : num x = (x, true) := by unfold num; rw [if_pos h]
theorem num_no {x : Int} (h : ¬ I64 x) : num x = (0, false) := by unfold num; rw [if_neg h]
/-- The floor of a quotient. -/
def fl (p c : Int) : Int := if 0 < c then p / c else (-p) / (-c)
theorem fl_spec (p : Int) {c : Int} (hc : c ≠ 0) : ∃ m, fl p c * c + m = p ∧ (0 < c → 0 ≤ m ∧ m < c) ∧ (c < 0 → c < m ∧ m ≤ 0) := by
  unfold fl
  by_cases h : 0 < c
  · rw [if_pos h]
    refine ⟨p % c, Int.ediv_mul_add_emod p c, fun _ => ⟨Int.emod_nonneg _ hc, Int.emod_lt_of_pos _ h⟩, fun h' => by omega⟩
  · rw [if_neg h]
    have e := Int.ediv_mul_add_emod (-p) (-c)
    rw [Int.mul_neg] at e
    have h1 := Int.emod_nonneg (-p) (show -c ≠ 0 by omega)
    have h2 := Int.emod_lt_of_pos (-p) (show 0 < -c by omega)
    exact ⟨-((-p) % (-c)), by omega, fun h' => by omega, fun _ => by omega⟩
theorem fl_unique {p c f m : Int} (hc : c ≠ 0) (h : f * c + m = p) (h1 : 0 < c → 0 ≤ m ∧ m < c) (h2 : c < 0 → c < m ∧ m ≤ 0) : fl p c = f := by
  obtain ⟨m', e, e1, e2⟩ := fl_spec p hc
  have key : (fl p c - f) * c = m - m' := by rw [Int.sub_mul]; omega
  rcases Int.lt_or_gt_of_ne hc with hn | hp
  · have a := e2 hn; have b := h2 hn
    have k1 : (fl p c - f) * c < (-1) * c := by omega
    have k2 : 1 * c < (fl p c - f) * c := by omega
    have l1 : -1 < fl p c - f := by
      rcases Int.lt_or_le (-1) (fl p c - f) with h | h
      · exact h
      · have := Int.mul_le_mul_of_nonpos_right h (Int.le_of_lt hn); omega
    have l2 : fl p c - f < 1 := by
      rcases Int.lt_or_le (fl p c - f) 1 with h | h
      · exact h
      · have := Int.mul_le_mul_of_nonpos_right h (Int.le_of_lt hn); omega
    omega
  · have a := e1 hp; have b := h1 hp
    have l1 : -1 < fl p c - f := lt_of_mul hp (by omega)
    have l2 : fl p c - f < 1 := lt_of_mul hp (by omega)
    omega
theorem mul_bound {a b : Int} {L M : Nat} (ha : a.natAbs ≤ L) (hb : b.natAbs ≤ M) : (a * b).natAbs ≤ L * M := by
  rw [Int.natAbs_mul]; exact Nat.mul_le_mul ha hb
theorem prod_bound {a b : Int} (ha : I64 a) (hb : I64 b) : (a * b).natAbs ≤ 85070591730234615865843651857942052864 := by
  have := mul_bound (a := a) (b := b) (L := 9223372036854775808) (M := 9223372036854775808) (by unfold I64 at ha; omega) (by unfold I64 at hb; omega)
  exact this
theorem times_eq {a b : Int} (ha : I64 a) (hb : I64 b) : fix_times.f a b = some (a * b / 18446744073709551616, a * b % 18446744073709551616) := by
  have hP := prod_bound ha hb
  unfold I64 at ha hb
  have key : ∀ (A B : Int), (A = a ∨ A = a + 18446744073709551616) → (B = b ∨ B = b + 18446744073709551616) → 0 ≤ A → A < 18446744073709551616 → 0 ≤ B → B < 18446744073709551616 →
      A * B / 18446744073709551616 = a * b / 18446744073709551616 + (if A = a then 0 else b) + (if B = b then 0 else a) + (if A = a ∨ B = b then 0 else 18446744073709551616) ∧ A * B % 18446744073709551616 = a * b % 18446744073709551616 := by
    intro A B h1 h2 _ _ _ _
    rcases h1 with rfl | rfl <;> rcases h2 with rfl | rfl
    · simp
    · rw [Int.mul_add, if_pos rfl, if_neg (by omega), if_pos (by simp)]
      generalize A * b = z at *
      omega
    · rw [Int.add_mul, if_neg (by omega), if_pos rfl, if_pos (by simp)]
      generalize a * B = z at *
      omega
    · rw [Int.add_mul, Int.mul_add, Int.mul_add, if_neg (by omega), if_neg (by omega), if_neg (by omega)]
      generalize a * b = z at *
      omega
  unfold fix_times.f bits_Mul64.f
  have wa : IntKind.u64.wrap a = a ∨ IntKind.u64.wrap a = a + 18446744073709551616 := by rw [IntKind.wrap_u64]; omega
  have wb : IntKind.u64.wrap b = b ∨ IntKind.u64.wrap b = b + 18446744073709551616 := by rw [IntKind.wrap_u64]; omega
  have ra : 0 ≤ IntKind.u64.wrap a ∧ IntKind.u64.wrap a < 18446744073709551616 := by rw [IntKind.wrap_u64]; omega
  have rb : 0 ≤ IntKind.u64.wrap b ∧ IntKind.u64.wrap b < 18446744073709551616 := by rw [IntKind.wrap_u64]; omega
  generalize hA : IntKind.u64.wrap a = A at *
  generalize hB : IntKind.u64.wrap b = B at *
  obtain ⟨k1, k2⟩ := key A B wa wb ra.1 ra.2 rb.1 rb.2
  rw [if_pos (by omega)]
  simp only [Option.bind_some]
  rw [k1, k2]
  generalize a * b = P at *
  have hq : -4611686018427387904 ≤ P / 18446744073709551616 ∧ P / 18446744073709551616 ≤ 4611686018427387904 := by omega
  generalize hr : P % 18446744073709551616 = r at *
  generalize P / 18446744073709551616 = q at *
  clear key k1 k2
  by_cases h1 : a < 0
  · have : A = a + 18446744073709551616 := by omega
    rw [if_pos h1, if_neg (show ¬ A = a by omega)]
    by_cases h2 : b < 0
    · rw [if_pos h2, if_neg (show ¬ B = b by omega), if_neg (by omega)]
      congr 2; simp only [IntKind.wrap_u64, wrap64]; omega
    · rw [if_neg h2, if_pos (show B = b by omega), if_pos (by omega)]
      congr 2; simp only [IntKind.wrap_u64, wrap64]; omega
  · rw [if_neg h1, if_pos (show A = a by omega)]
    by_cases h2 : b < 0
    · rw [if_pos h2, if_neg (show ¬ B = b by omega), if_pos (by omega)]
      congr 2; simp only [IntKind.wrap_u64, wrap64]; omega
    · rw [if_neg h2, if_pos (show B = b by omega), if_pos (by omega)]
      congr 2; simp only [wrap64]; omega
theorem abs_eq {P : Int} (hP : P.natAbs ≤ 85070591730234615865843651857942052864) :
    fix_wide_abs.f (P / 18446744073709551616) (P % 18446744073709551616) = some (((P.natAbs / 18446744073709551616 : Nat) : Int), ((P.natAbs % 18446744073709551616 : Nat) : Int), decide (P < 0)) := by
  unfold fix_wide_abs.f
  by_cases h : P < 0
  · rw [if_neg (by omega), decide_eq_true h]
    have e1 : sub64d 0 (P % 18446744073709551616) 0 = ((P.natAbs % 18446744073709551616 : Nat) : Int) := by
      unfold sub64d; simp only [Int.toNat_zero]; congr 1; omega
    have e2 : sub64b 0 (P % 18446744073709551616) 0 = if P % 18446744073709551616 = 0 then 0 else 1 := by
      unfold sub64b; simp only [Int.toNat_zero]
      by_cases h0 : P % 18446744073709551616 = 0
      · rw [if_pos h0, if_neg (by omega)]; rfl
      · rw [if_neg h0, if_pos (by omega)]; rfl
    rw [e1, e2]
    have e3 : sub64d 0 (IntKind.u64.wrap (P / 18446744073709551616)) (if P % 18446744073709551616 = 0 then 0 else 1) = ((P.natAbs / 18446744073709551616 : Nat) : Int) := by
      rw [IntKind.wrap_u64]
      unfold sub64d; simp only [Int.toNat_zero]
      by_cases h0 : P % 18446744073709551616 = 0
      · rw [if_pos h0]; simp only [Int.toNat_zero]; congr 1; omega
      · rw [if_neg h0]; simp only [Int.toNat_one]; congr 1; omega
    rw [e3]
  · rw [if_pos (by omega), decide_eq_false h, u64_id (by omega) (by omega)]
    congr 2
    · omega
    · congr 1; omega
theorem size_eq {a : Int} (ha : I64 a) : fix_size.f a = some (a.natAbs : Int) := by
  unfold fix_size.f; unfold I64 at ha
  by_cases h : a < 0
  · rw [if_pos h]; congr 1; simp only [IntKind.wrap_u64]; omega
  · rw [if_neg h]; congr 1; simp only [IntKind.wrap_u64]; omega
/-- The answer, out of the sizes' quotient. -/
theorem fl_abs {P c : Int} (hc : c ≠ 0) :
    fl P c = if P < 0 ↔ c < 0 then ((P.natAbs / c.natAbs : Nat) : Int) else if P.natAbs % c.natAbs = 0 then -((P.natAbs / c.natAbs : Nat) : Int) else -((P.natAbs / c.natAbs : Nat) : Int) - 1 := by
  have hd := Nat.div_add_mod P.natAbs c.natAbs
  have hl := Nat.mod_lt P.natAbs (show 0 < c.natAbs by omega)
  generalize hq : P.natAbs / c.natAbs = q at *
  generalize hr : P.natAbs % c.natAbs = r at *
  have hd' : ((c.natAbs : Int)) * q + r = (P.natAbs : Int) := by rw [← Int.natCast_mul]; omega
  by_cases hn : c < 0
  · have ec : (c.natAbs : Int) = -c := by omega
    rw [ec, Int.neg_mul] at hd'
    by_cases hP : P < 0
    · rw [if_pos (by omega)]
      exact fl_unique (m := -r) hc (by rw [Int.mul_comm]; omega) (fun h => by omega) (fun _ => by omega)
    · rw [if_neg (by omega)]
      by_cases h0 : r = 0
      · rw [if_pos h0]
        exact fl_unique (m := 0) hc (by rw [Int.neg_mul, Int.mul_comm]; omega) (fun h => by omega) (fun _ => by omega)
      · rw [if_neg h0]
        exact fl_unique (m := c + r) hc (by rw [Int.sub_mul, Int.neg_mul, Int.one_mul, Int.mul_comm]; omega) (fun h => by omega) (fun _ => by omega)
  · have ec : (c.natAbs : Int) = c := by omega
    rw [ec] at hd'
    by_cases hP : P < 0
    · rw [if_neg (by omega)]
      by_cases h0 : r = 0
      · rw [if_pos h0]
        exact fl_unique (m := 0) hc (by rw [Int.neg_mul, Int.mul_comm]; omega) (fun _ => by omega) (fun h => by omega)
      · rw [if_neg h0]
        exact fl_unique (m := c - r) hc (by rw [Int.sub_mul, Int.neg_mul, Int.one_mul, Int.mul_comm]; omega) (fun _ => by omega) (fun h => by omega)
    · rw [if_pos (by omega)]
      exact fl_unique (m := r) hc (by rw [Int.mul_comm]; omega) (fun _ => by omega) (fun h => by omega)
theorem narrowed_f (q : Int) : fix_narrowed.f q false = some (decide (q ≤ 9223372036854775807)) := by
  simp [fix_narrowed.f]
theorem narrowed_t (q : Int) : fix_narrowed.f q true = some (decide (q ≤ 9223372036854775808)) := by
  simp only [fix_narrowed.f, if_true]
theorem up_wrap {q : Nat} (h1 : ¬ IntKind.u64.wrap ((q : Int) + 1) = 0) (hq : q < 18446744073709551616) : IntKind.u64.wrap ((q : Int) + 1) = q + 1 := by
  rw [IntKind.wrap_u64] at h1 ⊢; omega
theorem up_over {q : Nat} (h1 : IntKind.u64.wrap ((q : Int) + 1) = 0) : ¬ I64 (-(q : Int) - 1) := by
  rw [IntKind.wrap_u64] at h1; unfold I64; omega
theorem down_wrap {q : Int} (h0 : 0 ≤ q) (h : q ≤ 9223372036854775808) : wrap64 (IntKind.u64.wrap (-q)) = -q := by
  simp only [IntKind.wrap_u64, wrap64]; omega
theorem muldiv_t (q r : Int) (k : Nat) : fix_MulDiv.j0 (k + 1) q r true = if q ≤ 9223372036854775807 then some (wrap64 q, true) else some (0, false) := by
  simp [fix_MulDiv.j0, narrowed_f]
theorem muldiv_f0 (q : Int) (k : Nat) : fix_MulDiv.j0 (k + 1) q 0 false = if q ≤ 9223372036854775808 then some (wrap64 (IntKind.u64.wrap (-q)), true) else some (0, false) := by
  simp [fix_MulDiv.j0, narrowed_t]
theorem muldiv_f (q r : Int) (h : 0 < r) (k : Nat) : fix_MulDiv.j0 (k + 1) q r false = if IntKind.u64.wrap (q + 1) = 0 then some (0, false) else if IntKind.u64.wrap (q + 1) ≤ 9223372036854775808 then some (wrap64 (IntKind.u64.wrap (-(IntKind.u64.wrap (q + 1)))), true) else some (0, false) := by
  simp only [fix_MulDiv.j0, narrowed_t, Option.bind_some, decide_eq_true_eq]
  rw [if_neg (by simp), if_pos h]
theorem muldiv_up (q r : Nat) (hr : 0 < r) (hq : q < 18446744073709551616) (k : Nat) : fix_MulDiv.j0 (k + 1) q r false = some (num (-(q : Int) - 1)) := by
  rw [muldiv_f _ _ (by omega)]
  by_cases h1 : IntKind.u64.wrap ((q : Int) + 1) = 0
  · rw [if_pos h1, num_no (up_over h1)]
  · rw [if_neg h1]
    have e := up_wrap h1 hq
    generalize IntKind.u64.wrap ((q : Int) + 1) = z at *
    subst e
    by_cases h : (q : Int) + 1 ≤ 9223372036854775808
    · rw [if_pos h, down_wrap (by omega) h, num_yes (by unfold I64; omega), Int.neg_add]; rfl
    · rw [if_neg h, num_no (by unfold I64; omega)]
theorem muldiv_j0 (q r : Nat) (hq : q < 18446744073709551616) (b : Bool) (k : Nat) :
    fix_MulDiv.j0 (k + 1) q r b = some (num (if b then (q : Int) else if r = 0 then -(q : Int) else -(q : Int) - 1)) := by
  cases b with
  | true =>
    rw [muldiv_t, if_pos rfl]
    by_cases h : (q : Int) ≤ 9223372036854775807
    · rw [if_pos h, w64_id (by omega) (by omega), num_yes (by unfold I64; omega)]
    · rw [if_neg h, num_no (by unfold I64; omega)]
  | false =>
    rw [if_neg (show ¬ (false = true) by simp)]
    by_cases h0 : r = 0
    · subst h0
      rw [if_pos rfl, show ((0 : Nat) : Int) = 0 from rfl, muldiv_f0]
      by_cases h : (q : Int) ≤ 9223372036854775808
      · rw [if_pos h, down_wrap (by omega) h, num_yes (by unfold I64; omega)]
      · rw [if_neg h, num_no (by unfold I64; omega)]
    · rw [if_neg h0, muldiv_up q r (by omega) hq]
/-- The floor of a product by a number. -/
def md (a b c : Int) : Int × Bool := if c = 0 then (0, false) else num (fl (a * b) c)
theorem mulDiv_eq {a b c : Int} (ha : I64 a) (hb : I64 b) (hc : I64 c) (k : Nat) (hk : 20 ≤ k) : fix_MulDiv.f k a b c = some (md a b c) := by
  unfold fix_MulDiv.f md
  by_cases h0 : c = 0
  · rw [if_pos h0, if_pos h0]
  · rw [if_neg h0, if_neg h0, times_eq ha hb]
    simp only [Option.bind_some]
    have hP := prod_bound ha hb
    generalize a * b = P at *
    rw [abs_eq hP]
    simp only [Option.bind_some]
    rw [size_eq hc]
    simp only [Option.bind_some]
    unfold I64 at hc
    have hfa := fl_abs (P := P) h0
    have hd := Nat.div_add_mod P.natAbs c.natAbs
    have hl := Nat.mod_lt P.natAbs (show 0 < c.natAbs by omega)
    by_cases hbig : ((P.natAbs / 18446744073709551616 : Nat) : Int) ≥ (c.natAbs : Int)
    · rw [if_pos hbig]
      have h1 : c.natAbs ≤ P.natAbs / 18446744073709551616 := by omega
      have h2 : 18446744073709551616 ≤ P.natAbs / c.natAbs := by
        rw [Nat.le_div_iff_mul_le (by omega), Nat.mul_comm]
        exact (Nat.le_div_iff_mul_le (by omega)).mp h1
      have : ¬ I64 (fl P c) := by
        rw [hfa]; unfold I64; split
        · omega
        · split <;> omega
      unfold num; rw [if_neg this]
    · rw [if_neg hbig]
      have hm : P.natAbs = P.natAbs / 18446744073709551616 * 18446744073709551616 + P.natAbs % 18446744073709551616 := by omega
      rw [div64_eq _ _ _ (by omega) (by omega) (by omega) k hk, ← hm]
      simp only [Option.bind_some]
      have hq : P.natAbs / c.natAbs < 18446744073709551616 := by
        rw [Nat.div_lt_iff_lt_mul (by omega)]
        have : P.natAbs / 18446744073709551616 < c.natAbs := by omega
        have := (Nat.div_lt_iff_lt_mul (show 0 < 18446744073709551616 by omega)).mp this
        rwa [Nat.mul_comm] at this
      obtain ⟨k, rfl⟩ : ∃ m, k = m + 1 := ⟨k - 1, by omega⟩
      rw [hfa]
      generalize P.natAbs / c.natAbs = q at *
      generalize P.natAbs % c.natAbs = r at *
      by_cases hs : P < 0 ↔ c < 0
      · rw [if_pos hs, if_pos (by simp [hs]), muldiv_j0 q r hq]; rfl
      · have hbe : (decide (P < 0) == decide (c < 0)) = false := by
          by_cases x : P < 0 <;> by_cases y : c < 0 <;> simp [x, y] at hs ⊢
        rw [if_neg hs, if_neg (by rw [hbe]; simp)]
        by_cases hq0 : (q : Int) = 0
        · rw [if_pos hq0, muldiv_j0 q r hq]
          by_cases hr0 : r = 0
          · have : ((r : Int) == 0) = true := by simp [hr0]
            rw [this, if_pos hr0]; simp; congr 1; omega
          · have : ((r : Int) == 0) = false := by simp [hr0]
            rw [this, if_neg hr0]; simp
        · rw [if_neg hq0, muldiv_j0 q r hq]; simp
theorem floor_eq {a b : Int} (ha : I64 a) (hb : I64 b) (k : Nat) (hk : 20 ≤ k) : fix_Floor.f k a b = some (md a 1 b) := by
  unfold fix_Floor.f
  rw [mulDiv_eq ha (by unfold I64; omega) hb k hk]
  rfl
theorem add_eq {a b : Int} (ha : I64 a) (hb : I64 b) : fix_Add.f a b = some (num (a + b)) := by
  unfold fix_Add.f
  by_cases h : I64 (a + b)
  · rw [num_yes h]
    unfold I64 at *
    rw [w64_id (by omega) (by omega)]
    by_cases h1 : a + b > a <;> by_cases h2 : b > 0
    · rw [decide_eq_true h1, decide_eq_true h2, if_neg (by simp)]
    · omega
    · omega
    · rw [decide_eq_false h1, decide_eq_false h2, if_neg (by simp)]
  · rw [num_no h]
    unfold I64 at *
    by_cases h2 : b > 0
    · have h1 : ¬ wrap64 (a + b) > a := by unfold wrap64; omega
      rw [decide_eq_false h1, decide_eq_true h2, if_pos (by simp), if_neg (by omega)]
    · have h1 : wrap64 (a + b) > a := by unfold wrap64; omega
      rw [decide_eq_true h1, decide_eq_false h2, if_pos (by simp), if_neg (by omega)]
/-- The floor of a quotient and one half. -/
def rnd (a b : Int) : Int := fl (2 * a + b) (2 * b)
def rd2 (a b : Int) : Int × Bool := if b = 0 then (0, false) else num (rnd a b)
/-- By what is left over: one more where it is half the divisor, or more. -/
theorem rnd_left {a b : Int} (hb : b ≠ 0) : ∃ m, fl a b * b + m = a ∧ (0 < b → 0 ≤ m ∧ m < b) ∧ (b < 0 → b < m ∧ m ≤ 0) ∧ rnd a b = if b.natAbs ≤ 2 * m.natAbs then fl a b + 1 else fl a b := by
  obtain ⟨m, e, e1, e2⟩ := fl_spec a hb
  refine ⟨m, e, e1, e2, ?_⟩
  unfold rnd
  generalize fl a b = q at *
  have ee : 2 * (q * b) + 2 * m = 2 * a := by omega
  have e3 : q * (2 * b) = 2 * (q * b) := by rw [← Int.mul_assoc, Int.mul_comm q 2, Int.mul_assoc]
  by_cases h : b.natAbs ≤ 2 * m.natAbs
  · rw [if_pos h]
    exact fl_unique (m := 2 * m - b) (by omega) (by rw [Int.add_mul, Int.one_mul, e3]; omega) (fun hp => by have := e1 (by omega); omega) (fun hp => by have := e2 (by omega); omega)
  · rw [if_neg h]
    exact fl_unique (m := 2 * m + b) (by omega) (by rw [e3]; omega) (fun hp => by have := e1 (by omega); omega) (fun hp => by have := e2 (by omega); omega)
theorem fl_over {a b : Int} (ha : I64 a) (hb : I64 b) (h0 : b ≠ 0) (h : ¬ I64 (fl a b)) : a = -9223372036854775808 ∧ b = -1 := by
  rw [fl_abs h0] at h
  unfold I64 at *
  have hd := Nat.div_add_mod a.natAbs b.natAbs
  have hle := Nat.div_le_self a.natAbs b.natAbs
  have hl := Nat.mod_lt a.natAbs (show 0 < b.natAbs by omega)
  by_cases h1 : b.natAbs = 1
  · rw [h1, Nat.div_one, Nat.mod_one] at h
    simp only [if_true] at h
    split at h <;> omega
  · have h2 : a.natAbs / b.natAbs ≤ a.natAbs / 2 := Nat.div_le_div_left (by omega) (by omega)
    generalize a.natAbs / b.natAbs = q at *
    split at h
    · omega
    · split at h <;> omega
theorem round_eq {a b : Int} (ha : I64 a) (hb : I64 b) (k : Nat) (hk : 20 ≤ k) : fix_Round.f k a b = some (rd2 a b) := by
  unfold fix_Round.f rd2
  rw [floor_eq ha hb k hk]
  simp only [Option.bind_some]
  unfold md
  rw [Int.mul_one]
  by_cases h0 : b = 0
  · rw [if_pos h0, if_pos h0]; simp
  · rw [if_neg h0, if_neg h0]
    obtain ⟨m, e, e1, e2, e3⟩ := rnd_left (a := a) h0
    unfold num
    by_cases hf : I64 (fl a b)
    · rw [if_pos hf]
      simp only [if_true]
      have hov : wrap64 (a - wrap64 (fl a b * b)) = m := by
        have hm : -9223372036854775808 < m ∧ m ≤ 9223372036854775807 := by
          unfold I64 at hb
          rcases Int.lt_or_gt_of_ne h0 with h | h
          · have := e2 h; omega
          · have := e1 h; omega
        generalize fl a b * b = z at *
        unfold wrap64; omega
      rw [hov]
      have hm : I64 m := by
        unfold I64 at hb ⊢
        rcases Int.lt_or_gt_of_ne h0 with h | h
        · have := e2 h; omega
        · have := e1 h; omega
      have hmb : m.natAbs < b.natAbs := by
        rcases Int.lt_or_gt_of_ne h0 with h | h
        · have := e2 h; omega
        · have := e1 h; omega
      rw [size_eq hm, size_eq hb]
      simp only [Option.bind_some]
      unfold I64 at hb
      rw [u64_id (by omega) (by omega), e3]
      by_cases h : b.natAbs ≤ 2 * m.natAbs
      · rw [if_pos (by omega), if_pos h, add_eq hf (by unfold I64; omega)]
        simp only [Option.bind_some]
        unfold num; rfl
      · rw [if_neg (by omega), if_neg h, if_pos hf]
    · rw [if_neg hf]
      obtain ⟨r1, r2⟩ := fl_over ha hb h0 hf
      subst r1; subst r2
      have : ¬ I64 (rnd (-9223372036854775808) (-1)) := by decide
      rw [if_neg this]; rfl
end Go.Proofs.Ytdhjcfgklbedjaa.P
namespace Go.Proofs.Ytdhjcfgklbedjaa.P
open Go.RowKit Go.Proofs.YtdhjcfgklbedjaaW.PrintWords Go.Proofs.YtdhjcfgklbedjaaW.PrintLast Go.Proofs.YtdhjcfgklbedjaaW.PrintMore
theorem and_low (n : Int) (m : Nat) (hm : m ≤ 62) (c : Int) (hc : c = ((2 ^ m - 1 : Nat) : Int)) : Go.bits .and .i64 n c = n % ((2 ^ m : Nat) : Int) := by
  subst hc
  have hp := Nat.two_pow_pos m
  have hp2 : 2 ^ m ≤ 2 ^ 62 := Nat.pow_le_pow_right (by omega) hm
  have h1 : (BitVec.ofInt 64 ((2 ^ m - 1 : Nat) : Int)).toNat = 2 ^ m - 1 := by
    rw [BitVec.toNat_ofInt]
    generalize 2 ^ m = p at *
    have : (2 : Nat) ^ 64 = 18446744073709551616 := by decide
    rw [this]; omega
  have key : (BitVec.ofInt 64 n &&& BitVec.ofInt 64 ((2 ^ m - 1 : Nat) : Int)).toNat = (n % ((2 ^ 64 : Nat) : Int)).toNat % 2 ^ m := by
    rw [BitVec.toNat_and, BitVec.toNat_ofInt, h1, Nat.and_two_pow_sub_one_eq_mod]
  show IntKind.i64.wrap ((BitVec.ofInt 64 n &&& BitVec.ofInt 64 ((2 ^ m - 1 : Nat) : Int)).toNat : Nat) = n % ((2 ^ m : Nat) : Int)
  rw [key, IntKind.wrap_i64]
  have hdvd : ((2 ^ m : Nat) : Int) ∣ ((2 ^ 64 : Nat) : Int) := by
    rw [Int.natCast_dvd_natCast]; exact Nat.pow_dvd_pow 2 (by omega)
  have e : (((n % ((2 ^ 64 : Nat) : Int)).toNat % 2 ^ m : Nat) : Int) = n % ((2 ^ m : Nat) : Int) := by
    rw [Int.natCast_emod, Int.toNat_of_nonneg (Int.emod_nonneg _ (by decide)), Int.emod_emod_of_dvd _ hdvd]
  rw [e]
  have h0 := Int.emod_nonneg n (show ((2 ^ m : Nat) : Int) ≠ 0 by omega)
  have h2 := Int.emod_lt_of_pos n (show 0 < ((2 ^ m : Nat) : Int) by omega)
  have h62 : (2 : Nat) ^ 62 = 4611686018427387904 := by decide
  generalize n % ((2 ^ m : Nat) : Int) = z at *
  generalize 2 ^ m = p at *
  omega
theorem and1 (n : Int) : Go.bits .and .i64 n 1 = n % 2 := and_low n 1 (by omega) 1 (by decide)
/-- May a point be a curve's? -/
def EvP (x y : Int) : Prop := x % 2 = 0 ∧ y % 2 = 0 ∧ -16777216 ≤ x ∧ x ≤ 16777216 ∧ -16777216 ≤ y ∧ y ≤ 16777216
instance (x y : Int) : Decidable (EvP x y) := by unfold EvP; infer_instance
theorem even_eq (x y : Int) : curve_Even.f x y = some (decide (EvP x y)) := by
  unfold curve_Even.f
  rw [and1, and1]
  by_cases h1 : x % 2 = 0
  · rw [if_pos h1]
    by_cases h2 : y % 2 = 0
    · rw [if_pos h2]
      by_cases h3 : mx x y ≤ 16777216
      · rw [if_pos h3]; congr 1; apply decide_eq_decide.mpr; unfold EvP; unfold mx at h3; unfold mn; omega
      · rw [if_neg h3]; congr 1; symm; apply decide_eq_false; unfold EvP; unfold mx at h3; omega
    · rw [if_neg h2]; congr 1; symm; apply decide_eq_false; unfold EvP; omega
  · rw [if_neg h1]; congr 1; symm; apply decide_eq_false; unfold EvP; omega
theorem tmod2 (x : Int) : Int.tmod x 2 = 0 ↔ x % 2 = 0 := by rw [← Int.dvd_iff_tmod_eq_zero, Int.dvd_iff_emod_eq_zero]
theorem evenR_eq (x y : Int) (k : Nat) (hk : 10 ≤ k) : celluloidref16_Even.f k x y = some (decide (EvP x y)) := by
  obtain ⟨k, rfl⟩ : ∃ m, k = m + 10 := ⟨k - 10, by omega⟩
  have step : ∀ (i : Nat) (k : Nat), i < 2 → celluloidref16_Even.l0 (k + 1) [x, y] 2 (i : Int) = if rd [x, y] (i : Int) % 2 = 0 ∧ rd [x, y] (i : Int) ≤ 16777216 ∧ -16777216 ≤ rd [x, y] (i : Int) then celluloidref16_Even.l0 k [x, y] 2 ((i : Int) + 1) else some false := by
    intro i k hi
    rw [celluloidref16_Even.l0, if_pos (by omega), if_pos (by omega), if_pos (by simp; omega)]
    generalize rd [x, y] (i : Int) = z
    have ht := tmod2 z
    by_cases h1 : z % 2 = 0
    · rw [if_pos (ht.mpr h1)]
      by_cases h2 : z > 16777216
      · rw [if_pos h2, if_neg (by omega)]
      · rw [if_neg h2]
        by_cases h3 : z < -16777216
        · rw [if_pos h3, if_neg (by omega)]
        · rw [if_neg h3, if_pos (by omega), w64_id (by omega) (by omega)]
    · rw [if_neg (fun h => h1 (ht.mp h)), if_neg (by omega)]
  have e : celluloidref16_Even.f (k + 10) x y = celluloidref16_Even.l0 (k + 10) [x, y] 2 ((0 : Nat) : Int) := rfl
  rw [e, step 0 (k + 9) (by omega)]
  have r0 : rd [x, y] ((0 : Nat) : Int) = x := rfl
  have r1 : rd [x, y] ((1 : Nat) : Int) = y := rfl
  rw [r0]
  by_cases h : x % 2 = 0 ∧ x ≤ 16777216 ∧ -16777216 ≤ x
  · rw [if_pos h, show ((0 : Nat) : Int) + 1 = ((1 : Nat) : Int) from rfl, step 1 (k + 8) (by omega), r1]
    by_cases h' : y % 2 = 0 ∧ y ≤ 16777216 ∧ -16777216 ≤ y
    · rw [if_pos h', celluloidref16_Even.l0, if_neg (by omega)]; congr 1; symm; apply decide_eq_true; unfold EvP; omega
    · rw [if_neg h']; congr 1; symm; apply decide_eq_false; unfold EvP; omega
  · rw [if_neg h]; congr 1; symm; apply decide_eq_false; unfold EvP; omega
/-- May three points be a curve's? -/
def Ev3 (a0 a1 b0 b1 c0 c1 : Int) : Prop := EvP a0 a1 ∧ EvP b0 b1 ∧ EvP c0 c1
instance (a0 a1 b0 b1 c0 c1 : Int) : Decidable (Ev3 a0 a1 b0 b1 c0 c1) := by unfold Ev3; infer_instance
theorem right_eq (a0 a1 b0 b1 c0 c1 : Int) (k : Nat) (hk : 10 ≤ k) : celluloidlaw16_right.f k a0 a1 b0 b1 c0 c1 = some (decide (Ev3 a0 a1 b0 b1 c0 c1)) := by
  unfold celluloidlaw16_right.f
  rw [evenR_eq _ _ k hk, evenR_eq _ _ k hk, evenR_eq _ _ k hk]
  simp only [Option.bind_some, decide_eq_true_eq]
  unfold Ev3
  by_cases h1 : EvP a0 a1 <;> by_cases h2 : EvP b0 b1 <;> by_cases h3 : EvP c0 c1 <;> simp [h1, h2, h3]
theorem even3_eq (a0 a1 b0 b1 c0 c1 : Int) : curve_even.f a0 a1 b0 b1 c0 c1 = some (decide (Ev3 a0 a1 b0 b1 c0 c1)) := by
  unfold curve_even.f
  rw [even_eq, even_eq, even_eq]
  simp only [Option.bind_some, decide_eq_true_eq]
  unfold Ev3
  by_cases h1 : EvP a0 a1 <;> by_cases h2 : EvP b0 b1 <;> by_cases h3 : EvP c0 c1 <;> simp [h1, h2, h3]
/-- How far a curve bends. -/
def bnd_ (a0 a1 b0 b1 c0 c1 : Int) : Int := mx (mx (a0 - 2 * b0 + c0) (-(a0 - 2 * b0 + c0))) (mx (a1 - 2 * b1 + c1) (-(a1 - 2 * b1 + c1)))
theorem bend_eq (a0 a1 b0 b1 c0 c1 : Int) : curve_Bend.f a0 a1 b0 b1 c0 c1 = some (if Ev3 a0 a1 b0 b1 c0 c1 then bnd_ a0 a1 b0 b1 c0 c1 else 0) := by
  unfold curve_Bend.f
  rw [even3_eq]
  simp only [Option.bind_some, decide_eq_true_eq]
  by_cases h : Ev3 a0 a1 b0 b1 c0 c1
  · rw [if_pos h, if_pos h]
    unfold Ev3 EvP at h
    unfold curve_size.f bnd_
    simp only [Option.bind_some]
    rw [w64_id (n := 2 * b0) (by omega) (by omega), w64_id (n := 2 * b1) (by omega) (by omega), w64_id (n := a0 - 2 * b0) (by omega) (by omega), w64_id (n := a1 - 2 * b1) (by omega) (by omega), w64_id (n := a0 - 2 * b0 + c0) (by omega) (by omega), w64_id (n := a1 - 2 * b1 + c1) (by omega) (by omega), w64_id (n := -(a0 - 2 * b0 + c0)) (by omega) (by omega), w64_id (n := -(a1 - 2 * b1 + c1)) (by omega) (by omega)]
  · rw [if_neg h, if_neg h]
/-- How many pieces. -/
def pcs (d : Int) : Int := if d ≤ 8 then 1 else if d ≤ 32 then 2 else if d ≤ 128 then 4 else if d ≤ 512 then 8 else if d ≤ 2048 then 16 else 32
theorem pcs_cases (d : Int) : pcs d = 1 ∨ pcs d = 2 ∨ pcs d = 4 ∨ pcs d = 8 ∨ pcs d = 16 ∨ pcs d = 32 := by
  unfold pcs
  repeat' split
  all_goals simp
theorem pieces_l0 (d : Int) (k : Nat) : curve_Pieces.l0 (k + 6) d 1 = some (pcs d) := by
  have go : ∀ (k : Nat) (n : Int), 0 < n → n < 32 → curve_Pieces.l0 (k + 1) d n = if 8 * n * n < d then curve_Pieces.l0 k d (n * 2) else some n := by
    intro k n h0 h1
    have hn : 0 ≤ 8 * n * n ∧ 8 * n * n ≤ 8 * 32 * 32 := ⟨Int.mul_nonneg (by omega) (by omega), Int.mul_le_mul (by omega) (by omega) (by omega) (by omega)⟩
    rw [curve_Pieces.l0, if_pos h1, w64_id (n := 8 * n) (by omega) (by omega), w64_id (n := 8 * n * n) (by omega) (by omega), w64_id (n := n * 2) (by omega) (by omega)]
  have last : curve_Pieces.l0 (k + 1) d 32 = some 32 := by rw [curve_Pieces.l0, if_neg (by omega)]
  rw [go (k + 5) 1 (by omega) (by omega), go (k + 4) (1 * 2) (by omega) (by omega), go (k + 3) (1 * 2 * 2) (by omega) (by omega), go (k + 2) (1 * 2 * 2 * 2) (by omega) (by omega), go (k + 1) (1 * 2 * 2 * 2 * 2) (by omega) (by omega), show (1 * 2 * 2 * 2 * 2 * 2 : Int) = 32 from rfl, last]
  unfold pcs
  repeat' split
  all_goals first
    | rfl
    | omega
theorem pieces_eq (a0 a1 b0 b1 c0 c1 : Int) (k : Nat) (hk : 10 ≤ k) : curve_Pieces.f k a0 a1 b0 b1 c0 c1 = some (if Ev3 a0 a1 b0 b1 c0 c1 then pcs (bnd_ a0 a1 b0 b1 c0 c1) else 0) := by
  obtain ⟨k, rfl⟩ : ∃ m, k = m + 6 := ⟨k - 6, by omega⟩
  unfold curve_Pieces.f
  rw [even3_eq, bend_eq]
  simp only [Option.bind_some, decide_eq_true_eq]
  by_cases h : Ev3 a0 a1 b0 b1 c0 c1
  · rw [if_pos h, if_pos h, if_pos h, pieces_l0]
  · rw [if_neg h, if_neg h]
end Go.Proofs.Ytdhjcfgklbedjaa.P
namespace Go.Proofs.Ytdhjcfgklbedjaa.P
open Go.RowKit Go.Proofs.YtdhjcfgklbedjaaW.PrintWords Go.Proofs.YtdhjcfgklbedjaaW.PrintLast Go.Proofs.YtdhjcfgklbedjaaW.PrintMore
/-- A part of the curve at i of n, times n times n. -/
def wy (a b c i n : Int) : Int := a * (n - i) * (n - i) + 2 * b * i * (n - i) + c * i * i
/-- The part of its point. -/
def pt (a b c i n : Int) : Int := 2 * rnd (wy a b c i n) (2 * n * n)
theorem mb {x y B C : Int} (h1 : -B ≤ x) (h2 : x ≤ B) (h3 : 0 ≤ y) (h4 : y ≤ C) : -(B * C) ≤ x * y ∧ x * y ≤ B * C := by
  have a1 : x * y ≤ B * y := Int.mul_le_mul_of_nonneg_right h2 h3
  have a2 : B * y ≤ B * C := Int.mul_le_mul_of_nonneg_left h4 (by omega)
  have a3 : -B * y ≤ x * y := Int.mul_le_mul_of_nonneg_right h1 h3
  rw [Int.neg_mul] at a3
  exact ⟨by omega, by omega⟩
theorem rnd_pos (p : Int) {c : Int} (hc : 0 < c) : rnd p c = (2 * p + c) / (2 * c) := by
  unfold rnd fl; rw [if_pos (by omega)]
theorem rnd_spec (p : Int) {c : Int} (hc : 0 < c) : 2 * (rnd p c * c) ≤ 2 * p + c ∧ 2 * p + c < 2 * (rnd p c * c) + 2 * c := by
  rw [rnd_pos p hc]
  have e := Int.ediv_mul_add_emod (2 * p + c) (2 * c)
  have l1 := Int.emod_nonneg (2 * p + c) (show 2 * c ≠ 0 by omega)
  have l2 := Int.emod_lt_of_pos (2 * p + c) (show 0 < 2 * c by omega)
  generalize (2 * p + c) / (2 * c) = q at *
  have : q * (2 * c) = 2 * (q * c) := by rw [← Int.mul_assoc, Int.mul_comm q 2, Int.mul_assoc]
  omega
theorem rnd_lo {p c lo : Int} (hc : 0 < c) (h : 2 * (lo * c) ≤ 2 * p + c) : lo ≤ rnd p c := by
  obtain ⟨_, s2⟩ := rnd_spec p hc
  have : lo * c < (rnd p c + 1) * c := by rw [Int.add_mul, Int.one_mul]; omega
  have := lt_of_mul hc this
  omega
theorem rnd_hi {p c hi : Int} (hc : 0 < c) (h : 2 * p + c < 2 * (hi * c) + 2 * c) : rnd p c ≤ hi := by
  obtain ⟨s1, _⟩ := rnd_spec p hc
  have : rnd p c * c < (hi + 1) * c := by rw [Int.add_mul, Int.one_mul]; omega
  have := lt_of_mul hc this
  omega
theorem wy_nonneg {a b c i n : Int} (ha : 0 ≤ a) (hb : 0 ≤ b) (hc : 0 ≤ c) (hi : 0 ≤ i) (hn : i ≤ n) : 0 ≤ wy a b c i n := by
  unfold wy
  have h1 : 0 ≤ a * (n - i) * (n - i) := Int.mul_nonneg (Int.mul_nonneg ha (by omega)) (by omega)
  have h2 : 0 ≤ 2 * b * i * (n - i) := Int.mul_nonneg (Int.mul_nonneg (by omega) hi) (by omega)
  have h3 : 0 ≤ c * i * i := Int.mul_nonneg (Int.mul_nonneg hc hi) hi
  omega
theorem wy_lo {a b c i n lo : Int} (ha : lo ≤ a) (hb : lo ≤ b) (hc : lo ≤ c) (hi : 0 ≤ i) (hn : i ≤ n) : lo * (n * n) ≤ wy a b c i n := by
  have h := wy_nonneg (a := a - lo) (b := b - lo) (c := c - lo) (by omega) (by omega) (by omega) hi hn
  have : wy a b c i n = wy (a - lo) (b - lo) (c - lo) i n + lo * (n * n) := by unfold wy; grind
  omega
theorem wy_hi {a b c i n hi' : Int} (ha : a ≤ hi') (hb : b ≤ hi') (hc : c ≤ hi') (hi : 0 ≤ i) (hn : i ≤ n) : wy a b c i n ≤ hi' * (n * n) := by
  have h := wy_nonneg (a := hi' - a) (b := hi' - b) (c := hi' - c) (by omega) (by omega) (by omega) hi hn
  have : wy a b c i n = hi' * (n * n) - wy (hi' - a) (hi' - b) (hi' - c) i n := by unfold wy; grind
  omega
theorem two_nn (n : Int) : 2 * n * n = 2 * (n * n) := Int.mul_assoc _ _ _
theorem nn_pos {n : Int} (h : 1 ≤ n) (h1 : n ≤ 64) : 1 ≤ n * n ∧ n * n ≤ 4096 :=
  ⟨by have := Int.mul_le_mul h h (by omega) (by omega); omega, by have := Int.mul_le_mul h1 h1 (by omega) (by omega); omega⟩
/-- Even bounds of a curve's points bound its pieces' points. -/
theorem pt_lo {a b c i n lo : Int} (ha : 2 * lo ≤ a) (hb : 2 * lo ≤ b) (hc : 2 * lo ≤ c) (hi : 0 ≤ i) (hn : i ≤ n) (h1 : 1 ≤ n) (h2 : n ≤ 64) : 2 * lo ≤ pt a b c i n := by
  unfold pt
  have hp := nn_pos h1 h2
  have := wy_lo ha hb hc hi hn
  have : lo ≤ rnd (wy a b c i n) (2 * n * n) := by
    rw [two_nn]
    generalize n * n = s at *
    have e : 2 * lo * s = lo * (2 * s) := by rw [Int.mul_comm 2 lo, Int.mul_assoc]
    exact rnd_lo (by omega) (by omega)
  omega
theorem pt_hi {a b c i n hi' : Int} (ha : a ≤ 2 * hi') (hb : b ≤ 2 * hi') (hc : c ≤ 2 * hi') (hi : 0 ≤ i) (hn : i ≤ n) (h1 : 1 ≤ n) (h2 : n ≤ 64) : pt a b c i n ≤ 2 * hi' := by
  unfold pt
  have hp := nn_pos h1 h2
  have := wy_hi ha hb hc hi hn
  have : rnd (wy a b c i n) (2 * n * n) ≤ hi' := by
    rw [two_nn]
    generalize n * n = s at *
    have e : 2 * hi' * s = hi' * (2 * s) := by rw [Int.mul_comm 2 hi', Int.mul_assoc]
    exact rnd_hi (by omega) (by omega)
  omega
/-- A number of a curve's points. -/
def Pn (a : Int) : Prop := -16777216 ≤ a ∧ a ≤ 16777216
theorem wy_bd {a b c i n : Int} (ha : Pn a) (hb : Pn b) (hc : Pn c) (hi : 0 ≤ i) (hn : i ≤ n) (h1 : 1 ≤ n) (h2 : n ≤ 64) : -68719476736 ≤ wy a b c i n ∧ wy a b c i n ≤ 68719476736 := by
  unfold Pn at *
  have hp := nn_pos h1 h2
  have l := wy_lo (lo := -16777216) ha.1 hb.1 hc.1 hi hn
  have u := wy_hi (hi' := 16777216) ha.2 hb.2 hc.2 hi hn
  omega
/-- The program's way to a part of the curve never leaves 64 bits. -/
theorem way_wrap {a b c i n : Int} (ha : Pn a) (hb : Pn b) (hc : Pn c) (hi : 0 ≤ i) (hn : i ≤ n) (h1 : 1 ≤ n) (h2 : n ≤ 64) :
    wrap64 (wrap64 (wrap64 (wrap64 (a * wrap64 (n - i)) * wrap64 (n - i)) + wrap64 (wrap64 (wrap64 (2 * b) * i) * wrap64 (n - i))) + wrap64 (wrap64 (c * i) * i)) = wy a b c i n := by
  have hw := wy_bd ha hb hc hi hn h1 h2
  unfold Pn at *
  rw [w64_id (n := n - i) (by omega) (by omega), w64_id (n := 2 * b) (by omega) (by omega)]
  have a1 := mb (y := n - i) (C := 64) ha.1 ha.2 (by omega) (by omega)
  have a2 := mb (y := n - i) (C := 64) a1.1 a1.2 (by omega) (by omega)
  have b1 := mb (x := 2 * b) (B := 33554432) (y := i) (C := 64) (by omega) (by omega) (by omega) (by omega)
  have b2 := mb (y := n - i) (C := 64) b1.1 b1.2 (by omega) (by omega)
  have c1 := mb (y := i) (C := 64) hc.1 hc.2 (by omega) (by omega)
  have c2 := mb (y := i) (C := 64) c1.1 c1.2 (by omega) (by omega)
  unfold wy at *
  rw [w64_id (n := a * (n - i)) (by omega) (by omega), w64_id (n := a * (n - i) * (n - i)) (by omega) (by omega), w64_id (n := 2 * b * i) (by omega) (by omega), w64_id (n := 2 * b * i * (n - i)) (by omega) (by omega), w64_id (n := c * i) (by omega) (by omega), w64_id (n := c * i * i) (by omega) (by omega)]
  rw [w64_id (n := a * (n - i) * (n - i) + 2 * b * i * (n - i)) (by omega) (by omega), w64_id (by omega) (by omega)]
theorem rnd_bd {a b c i n : Int} (ha : Pn a) (hb : Pn b) (hc : Pn c) (hi : 0 ≤ i) (hn : i ≤ n) (h1 : 1 ≤ n) (h2 : n ≤ 64) : -8388608 ≤ rnd (wy a b c i n) (2 * n * n) ∧ rnd (wy a b c i n) (2 * n * n) ≤ 8388608 := by
  unfold Pn at *
  have l := pt_lo (lo := -8388608) ha.1 hb.1 hc.1 hi hn h1 h2
  have u := pt_hi (hi' := 8388608) ha.2 hb.2 hc.2 hi hn h1 h2
  unfold pt at *
  omega
theorem at_eq {a b c i n : Int} (ha : Pn a) (hb : Pn b) (hc : Pn c) (hi : 0 ≤ i) (hn : i ≤ n) (h1 : 1 ≤ n) (h2 : n ≤ 64) (k : Nat) (hk : 20 ≤ k) : curve_at.f k a b c i n = some (pt a b c i n) := by
  have hw := wy_bd ha hb hc hi hn h1 h2
  have hr := rnd_bd ha hb hc hi hn h1 h2
  have hp := nn_pos h1 h2
  have e2 := two_nn n
  unfold curve_at.f
  rw [way_wrap ha hb hc hi hn h1 h2, w64_id (n := 2 * n) (by omega) (by omega), w64_id (n := 2 * n * n) (by omega) (by omega), round_eq (by unfold I64; omega) (by unfold I64; omega) k hk, Option.bind_some]
  unfold rd2 pt
  rw [if_neg (by omega), num_yes (by unfold I64; omega), w64_id (by omega) (by omega)]
abbrev Pt := S23
/-- The points from i on, m of them. -/
def pts (a0 a1 b0 b1 c0 c1 n : Int) : Nat → Int → List Pt
  | 0, _ => []
  | m + 1, i => ⟨pt a0 b0 c0 i n, pt a1 b1 c1 i n⟩ :: pts a0 a1 b0 b1 c0 c1 n m (i + 1)
theorem pts_len (a0 a1 b0 b1 c0 c1 n : Int) (m : Nat) : ∀ i, (pts a0 a1 b0 b1 c0 c1 n m i).length = m := by
  induction m with
  | zero => intro i; rfl
  | succ m ih => intro i; simp [pts, ih]
theorem pts_at (a0 a1 b0 b1 c0 c1 n : Int) : ∀ (m j : Nat) (i : Int), j < m → rd_T23 (pts a0 a1 b0 b1 c0 c1 n m i) (j : Int) = ⟨pt a0 b0 c0 (i + j) n, pt a1 b1 c1 (i + j) n⟩ := by
  intro m
  induction m with
  | zero => intro j i h; omega
  | succ m ih =>
    intro j i h
    cases j with
    | zero => simp [pts, rd_T23]
    | succ j =>
      have := ih j (i + 1) (by omega)
      have e : rd_T23 (pts a0 a1 b0 b1 c0 c1 n (m + 1) i) ((j + 1 : Nat) : Int) = rd_T23 (pts a0 a1 b0 b1 c0 c1 n m (i + 1)) (j : Int) := by simp [pts, rd_T23]
      rw [e, this, show i + ((j + 1 : Nat) : Int) = i + 1 + (j : Int) by omega]
/-- All six numbers. -/
structure P6 (a0 a1 b0 b1 c0 c1 : Int) : Prop where
  a0 : Pn a0
  a1 : Pn a1
  b0 : Pn b0
  b1 : Pn b1
  c0 : Pn c0
  c1 : Pn c1
theorem Ev3.p6 {a0 a1 b0 b1 c0 c1 : Int} (h : Ev3 a0 a1 b0 b1 c0 c1) : P6 a0 a1 b0 b1 c0 c1 := by
  unfold Ev3 EvP at h
  constructor <;> unfold Pn <;> omega
theorem flat_l0 {a0 a1 b0 b1 c0 c1 n : Int} (h : P6 a0 a1 b0 b1 c0 c1) (h1 : 1 ≤ n) (h2 : n ≤ 32) : ∀ (m k : Nat) (i : Int) (l : List Pt), 1 ≤ i → i + m = n + 1 → l.length + m ≤ 1000 → m + 30 ≤ k →
    curve_Flat.l0 k n l i a0 a1 b0 b1 c0 c1 = some (l ++ pts a0 a1 b0 b1 c0 c1 n m i) := by
  intro m
  induction m with
  | zero =>
    intro k i l hi hm hl hk
    obtain ⟨k, rfl⟩ : ∃ m, k = m + 1 := ⟨k - 1, by omega⟩
    rw [curve_Flat.l0, if_neg (by omega)]; simp [pts]
  | succ m ih =>
    intro k i l hi hm hl hk
    obtain ⟨k, rfl⟩ : ∃ m, k = m + 1 := ⟨k - 1, by omega⟩
    rw [curve_Flat.l0, if_pos (by omega), at_eq h.a0 h.b0 h.c0 (by omega) (by omega) h1 (by omega) k (by omega), Option.bind_some, at_eq h.a1 h.b1 h.c1 (by omega) (by omega) h1 (by omega) k (by omega), Option.bind_some, if_pos (by omega), w64_id (by omega) (by omega), ih k (i + 1) _ (by omega) (by omega) (by simp; omega) (by omega)]
    simp [pts]
/-- The points of a curve. -/
def cur (a0 a1 b0 b1 c0 c1 : Int) : List Pt := pts a0 a1 b0 b1 c0 c1 (pcs (bnd_ a0 a1 b0 b1 c0 c1)) (pcs (bnd_ a0 a1 b0 b1 c0 c1)).toNat 1
theorem pcs_bd (d : Int) : 1 ≤ pcs d ∧ pcs d ≤ 32 := by have := pcs_cases d; omega
theorem flat_eq {a0 a1 b0 b1 c0 c1 : Int} (h : Ev3 a0 a1 b0 b1 c0 c1) (k : Nat) (hk : 100 ≤ k) : curve_Flat.f k a0 a1 b0 b1 c0 c1 = some (cur a0 a1 b0 b1 c0 c1) := by
  have hp := pcs_bd (bnd_ a0 a1 b0 b1 c0 c1)
  unfold curve_Flat.f cur
  rw [pieces_eq _ _ _ _ _ _ k (by omega), if_pos h, Option.bind_some, flat_l0 h.p6 hp.1 hp.2 (pcs (bnd_ a0 a1 b0 b1 c0 c1)).toNat k 1 [] (by omega) (by omega) (by simp; omega) (by omega)]
  rfl
theorem cur_len (a0 a1 b0 b1 c0 c1 : Int) : ((cur a0 a1 b0 b1 c0 c1).length : Int) = pcs (bnd_ a0 a1 b0 b1 c0 c1) := by
  have hp := pcs_bd (bnd_ a0 a1 b0 b1 c0 c1)
  unfold cur; rw [pts_len]; omega
theorem cur_at (a0 a1 b0 b1 c0 c1 : Int) (j : Nat) (h : (j : Int) < pcs (bnd_ a0 a1 b0 b1 c0 c1)) : rd_T23 (cur a0 a1 b0 b1 c0 c1) (j : Int) = ⟨pt a0 b0 c0 (1 + j) (pcs (bnd_ a0 a1 b0 b1 c0 c1)), pt a1 b1 c1 (1 + j) (pcs (bnd_ a0 a1 b0 b1 c0 c1))⟩ := by
  unfold cur; exact pts_at _ _ _ _ _ _ _ _ _ _ (by omega)
theorem awake_eq (k : Nat) (hk : 100 ≤ k) : celluloidlaw16_awake.f k = some true := by
  have h : Ev3 0 0 32 0 64 64 := by decide
  unfold celluloidlaw16_awake.f
  rw [flat_eq h k hk, Option.bind_some]
  have e : cur 0 0 32 0 64 64 = [⟨2 * 8, 2 * 2⟩, ⟨2 * 16, 2 * 8⟩, ⟨2 * 24, 2 * 18⟩, ⟨2 * 32, 2 * 32⟩] := by rfl
  have hb : bnd_ 0 0 32 0 64 64 = 64 := by decide
  rw [e, bend_eq, if_pos h, hb]
  rfl
end Go.Proofs.Ytdhjcfgklbedjaa.P
namespace Go.Proofs.Ytdhjcfgklbedjaa.Pure
open Go.RowKit Go.Proofs.Ytdhjcfgklbedjaa.P Go.Proofs.YtdhjcfgklbedjaaW.PrintWords Go.Proofs.YtdhjcfgklbedjaaW.PrintLast Go.Proofs.YtdhjcfgklbedjaaW.PrintMore
theorem pt_shift {a b c i n d : Int} (h1 : 1 ≤ n) (h2 : n ≤ 64) : pt (a + 2 * d) (b + 2 * d) (c + 2 * d) i n = pt a b c i n + 2 * d := by
  unfold pt
  have hp := nn_pos h1 h2
  have e : wy (a + 2 * d) (b + 2 * d) (c + 2 * d) i n = wy a b c i n + 2 * d * (n * n) := by unfold wy; grind
  rw [e, two_nn]
  generalize n * n = s at *
  generalize wy a b c i n = w
  have : rnd (w + 2 * d * s) (2 * s) = rnd w (2 * s) + d := by
    rw [rnd_pos _ (by omega), rnd_pos _ (by omega), show 2 * (w + 2 * d * s) + 2 * s = (2 * w + 2 * s) + d * (2 * (2 * s)) by grind, Int.add_mul_ediv_right _ _ (by omega)]
  omega
theorem bd_shift (a0 a1 b0 b1 c0 c1 d e : Int) : bnd_ (a0 + 2 * d) (a1 + 2 * e) (b0 + 2 * d) (b1 + 2 * e) (c0 + 2 * d) (c1 + 2 * e) = bnd_ a0 a1 b0 b1 c0 c1 := by
  unfold bnd_
  rw [show a0 + 2 * d - 2 * (b0 + 2 * d) + (c0 + 2 * d) = a0 - 2 * b0 + c0 by omega, show a1 + 2 * e - 2 * (b1 + 2 * e) + (c1 + 2 * e) = a1 - 2 * b1 + c1 by omega]
theorem wi16 {n : Int} (h : (Lit.int .i16 n).wf = true) : -32768 ≤ n ∧ n ≤ 32767 := by
  simp [Lit.wf, IntKind.min, IntKind.max, IntKind.bits, IntKind.signed] at h; omega
theorem CurveShifts : celluloidlaw16_CurveShifts.Pure := by
  intro x0 x1 x2 d e _ _ _ hd he
  have hd := wi16 hd
  have he := wi16 he
  refine ⟨2002, ?_⟩
  unfold celluloidlaw16_CurveShifts.f
  generalize x0.f0 = a0
  generalize x0.f1 = a1
  generalize x1.f0 = b0
  generalize x1.f1 = b1
  generalize x2.f0 = c0
  generalize x2.f1 = c1
  have quit : ∀ p q r s t u v w x y z z1 z2 z3, celluloidlaw16_CurveShifts.j0 2002 true p q r s t u v w x y z z1 z2 z3 = some true := by
    intro p q r s t u v w x y z z1 z2 z3
    rw [celluloidlaw16_CurveShifts.j0, if_pos rfl, awake_eq 2001 (by omega)]; rfl
  rw [w64_id (n := d) (by omega) (by omega), w64_id (n := e) (by omega) (by omega), w64_id (n := 2 * d) (by omega) (by omega), w64_id (n := 2 * e) (by omega) (by omega), right_eq _ _ _ _ _ _ 2002 (by omega), Option.bind_some]
  by_cases h : Ev3 a0 a1 b0 b1 c0 c1
  · have h' := h
    unfold Ev3 EvP at h'
    rw [decide_eq_true h, if_pos rfl, w64_id (n := a0 + 2 * d) (by omega) (by omega), w64_id (n := a1 + 2 * e) (by omega) (by omega), w64_id (n := b0 + 2 * d) (by omega) (by omega), w64_id (n := b1 + 2 * e) (by omega) (by omega), w64_id (n := c0 + 2 * d) (by omega) (by omega), w64_id (n := c1 + 2 * e) (by omega) (by omega), right_eq _ _ _ _ _ _ 2002 (by omega), Option.bind_some]
    by_cases g : Ev3 (a0 + 2 * d) (a1 + 2 * e) (b0 + 2 * d) (b1 + 2 * e) (c0 + 2 * d) (c1 + 2 * e)
    · have hl := cur_len a0 a1 b0 b1 c0 c1
      have hm := cur_len (a0 + 2 * d) (a1 + 2 * e) (b0 + 2 * d) (b1 + 2 * e) (c0 + 2 * d) (c1 + 2 * e)
      have hp := pcs_bd (bnd_ a0 a1 b0 b1 c0 c1)
      rw [bd_shift] at hm
      rw [decide_eq_true g, Bool.not_true, celluloidlaw16_CurveShifts.j0, if_neg (by simp), flat_eq h 2001 (by omega), Option.bind_some, flat_eq g 2001 (by omega), Option.bind_some, if_pos (by omega), if_neg (by omega), bend_eq, if_pos h, Option.bind_some, bend_eq, if_pos g, Option.bind_some, bd_shift, bne_self_eq_false, celluloidlaw16_CurveShifts.j1, if_neg (by simp)]
      have rounds : ∀ (m j k : Nat), (j : Int) + m = pcs (bnd_ a0 a1 b0 b1 c0 c1) → m + 200 ≤ k → celluloidlaw16_CurveShifts.l0 k (cur a0 a1 b0 b1 c0 c1) (cur (a0 + 2 * d) (a1 + 2 * e) (b0 + 2 * d) (b1 + 2 * e) (c0 + 2 * d) (c1 + 2 * e)) ((cur a0 a1 b0 b1 c0 c1).length : Int) (j : Int) (2 * d) (2 * e) = some true := by
        intro m
        induction m with
        | zero =>
          intro j k hj hk
          obtain ⟨k, rfl⟩ : ∃ z, k = z + 1 := ⟨k - 1, by omega⟩
          rw [celluloidlaw16_CurveShifts.l0, if_neg (by omega), awake_eq k (by omega)]; rfl
        | succ m ih =>
          intro j k hj hk
          obtain ⟨k, rfl⟩ : ∃ z, k = z + 1 := ⟨k - 1, by omega⟩
          have q1 := cur_at a0 a1 b0 b1 c0 c1 j (by omega)
          have q2 := cur_at (a0 + 2 * d) (a1 + 2 * e) (b0 + 2 * d) (b1 + 2 * e) (c0 + 2 * d) (c1 + 2 * e) j (by rw [bd_shift]; omega)
          rw [bd_shift, pt_shift hp.1 (by omega), pt_shift hp.1 (by omega)] at q2
          have p6 := h.p6
          have r1 := pt_lo (a := a0) (b := b0) (c := c0) (i := 1 + j) (n := pcs (bnd_ a0 a1 b0 b1 c0 c1)) (lo := -8388608) (by omega) (by omega) (by omega) (by omega) (by omega) hp.1 (by omega)
          have r2 := pt_hi (a := a0) (b := b0) (c := c0) (i := 1 + j) (n := pcs (bnd_ a0 a1 b0 b1 c0 c1)) (hi' := 8388608) (by omega) (by omega) (by omega) (by omega) (by omega) hp.1 (by omega)
          have r3 := pt_lo (a := a1) (b := b1) (c := c1) (i := 1 + j) (n := pcs (bnd_ a0 a1 b0 b1 c0 c1)) (lo := -8388608) (by omega) (by omega) (by omega) (by omega) (by omega) hp.1 (by omega)
          have r4 := pt_hi (a := a1) (b := b1) (c := c1) (i := 1 + j) (n := pcs (bnd_ a0 a1 b0 b1 c0 c1)) (hi' := 8388608) (by omega) (by omega) (by omega) (by omega) (by omega) hp.1 (by omega)
          rw [celluloidlaw16_CurveShifts.l0, if_pos (by omega), if_pos (by omega), if_pos (by omega), if_pos (by omega), q1, q2]
          dsimp only
          rw [w64_id (by omega) (by omega), if_pos rfl, w64_id (by omega) (by omega), if_pos rfl, w64_id (n := (j : Int) + 1) (by omega) (by omega), show (j : Int) + 1 = ((j + 1 : Nat) : Int) by omega]
          exact ih (j + 1) k (by omega) (by omega)
      exact rounds (pcs (bnd_ a0 a1 b0 b1 c0 c1)).toNat 0 _ (by omega) (by omega)
    · rw [decide_eq_false g]; exact quit _ _ _ _ _ _ _ _ _ _ _ _ _ _
  · rw [decide_eq_false h, if_neg (by simp)]; exact quit _ _ _ _ _ _ _ _ _ _ _ _ _ _
end Go.Proofs.Ytdhjcfgklbedjaa.Pure
