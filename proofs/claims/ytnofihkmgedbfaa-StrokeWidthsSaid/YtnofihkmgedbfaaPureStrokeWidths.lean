/- The width of a line of any twips, by any matrix, is what the document says. (prune.py) -/
import Derived.Test.YtnofihkmgedbfaaPx3
import Derived.Test.YtnofihkmgedbfaaPx5
import Derived.Test.YtnofihkmgedbfaaPx6
import Derived.Test.YtnofihkmgedbfaaPx7
import Derived.Test.YtnofihkmgedbfaaPx9
import Derived.KernelRfl
import Derived.Laws.BitsAllLaws
import Derived.Laws.MathBits
import Derived.Lib.BitFns
import Derived.Test.YtnofihkmgedbfaaSayStrokeWidths
namespace Go.Proofs.Ytnofihkmgedbfaa.P
open Go.RowKit Go.Proofs.YtnofihkmgedbfaaW.PrintWords Go.Proofs.YtnofihkmgedbfaaW.PrintLast Go.Proofs.YtnofihkmgedbfaaW.PrintMore
theorem u64_id {n : Int} (h0 : 0 ≤ n) (h1 : n < 18446744073709551616) : IntKind.u64.wrap n = n := by rw [IntKind.wrap_u64]; omega
theorem w64_id {n : Int} (h0 : -9223372036854775808 ≤ n) (h1 : n < 9223372036854775808) : wrap64 n = n := by unfold wrap64; omega
structure Digit (u v v1 v0 u1 Q : Int) : Prop where
  hv : v = v1 * 4294967296 + v0
  v0a : 0 ≤ v0
  v0b : v0 < 4294967296
  v1a : 2147483648 ≤ v1
  v1b : v1 < 4294967296
  ua : 0 ≤ u
  ub : u < v
  u1a : 0 ≤ u1
  u1b : u1 < 4294967296
  qa : Q * v ≤ u * 4294967296 + u1
  qb : u * 4294967296 + u1 < Q * v + v
theorem lt_of_mul {a b v : Int} (hv : 0 < v) (h : a * v < b * v) : a < b := by
  rcases Int.lt_or_le a b with h1 | h1
  · exact h1
  · have := Int.mul_le_mul_of_nonneg_right h1 (Int.le_of_lt hv); omega
namespace Digit
variable {u v v1 v0 u1 Q : Int}
theorem vpos (d : Digit u v v1 v0 u1 Q) : 0 < v := by have := d.hv; have := d.v1a; have := d.v0a; omega
theorem q0 (d : Digit u v v1 v0 u1 Q) : 0 ≤ Q := by
  have h := d.qb; have := d.ua; have := d.u1a; have hv := d.vpos
  have : -1 < Q := lt_of_mul hv (by have : (Q + 1) * v = Q * v + v := by rw [Int.add_mul, Int.one_mul]
                                    omega)
  omega
theorem qB (d : Digit u v v1 v0 u1 Q) : Q < 4294967296 := by
  have h := d.qa; have := d.ub; have := d.u1b; have hv := d.vpos
  exact lt_of_mul hv (by omega)
theorem below (d : Digit u v v1 v0 u1 Q) {q : Int} (h : u * 4294967296 + u1 < q * v) : Q < q := lt_of_mul d.vpos (by have := d.qa; omega)
theorem above (d : Digit u v v1 v0 u1 Q) {q : Int} (h : q * v ≤ u * 4294967296 + u1) : q ≤ Q := by
  have : q < Q + 1 := lt_of_mul d.vpos (by have := d.qb; rw [Int.add_mul, Int.one_mul]; omega)
  omega
theorem prod (d : Digit u v v1 v0 u1 Q) {q r : Int} (h : q * v1 + r = u) : q * v = (u - r) * 4294967296 + q * v0 := by
  rw [d.hv, Int.mul_add, ← Int.mul_assoc, show q * v1 = u - r by omega]
/-- The test says yes: the guess is too great. -/
theorem yes (d : Digit u v v1 v0 u1 Q) {q r : Int} (h : q * v1 + r = u) (ht : 4294967296 ≤ q ∨ 4294967296 * r + u1 < q * v0) : Q ≤ q - 1 := by
  rcases ht with ht | ht
  · have := d.qB; omega
  · have := d.below (q := q) (by rw [d.prod h]; omega); omega
/-- It says no: the guess is right. -/
theorem no (d : Digit u v v1 v0 u1 Q) {q r : Int} (h : q * v1 + r = u) (hq : Q ≤ q) (ht : q * v0 ≤ 4294967296 * r + u1) : q = Q := by
  have := d.above (q := q) (by rw [d.prod h]; omega); omega
/-- What is left over is great: the guess is right. -/
theorem out (d : Digit u v v1 v0 u1 Q) {q r : Int} (h : q * v1 + r = u) (hq : Q ≤ q) (hB : q ≤ 4294967296) (hr : 4294967296 ≤ r) : q = Q := by
  refine d.no h hq ?_
  have h0 := d.q0
  have h1 : q * v0 ≤ 4294967296 * v0 := Int.mul_le_mul_of_nonneg_right hB d.v0a
  have := d.v0b; have := d.u1a; omega
theorem small (d : Digit u v v1 v0 u1 Q) {q : Int} (h0 : 0 ≤ q) (h1 : q < 4294967296) : 0 ≤ q * v0 ∧ q * v0 < 18446744073709551616 := by
  have h2 : q * v0 ≤ 4294967295 * v0 := Int.mul_le_mul_of_nonneg_right (by omega) d.v0a
  have := d.v0b
  exact ⟨Int.mul_nonneg h0 d.v0a, by omega⟩
/-- The first guess. -/
theorem init (d : Digit u v v1 v0 u1 Q) : Q ≤ u / v1 ∧ u / v1 ≤ 4294967297 ∧ u / v1 * v1 + (u - u / v1 * v1) = u ∧ 0 ≤ u - u / v1 * v1 ∧ u - u / v1 * v1 < v1 := by
  have h1 := d.v1a
  have hd := Int.mul_ediv_add_emod u v1
  have hm := Int.emod_nonneg u (show v1 ≠ 0 by omega)
  have hl := Int.emod_lt_of_pos u (show 0 < v1 by omega)
  rw [Int.mul_comm] at hd
  refine ⟨?_, ?_, by omega, by omega, by omega⟩
  · rw [Int.le_ediv_iff_mul_le (by omega)]
    have h := d.qa; rw [d.hv, Int.mul_add, ← Int.mul_assoc] at h
    have := Int.mul_nonneg d.q0 d.v0a; have := d.u1b
    omega
  · have : u / v1 < 4294967298 := by
      rw [Int.ediv_lt_iff_lt_mul (by omega)]
      have := d.ub; have := d.hv; have := d.v0b; omega
    omega
end Digit
/-- What is left behind a digit, modulo 2^64. -/
theorem rest_wrap {u v u1 Q : Int} (h0 : Q * v ≤ u * 4294967296 + u1) (h1 : u * 4294967296 + u1 < Q * v + v) (hv : v < 18446744073709551616) :
    IntKind.u64.wrap (IntKind.u64.wrap (IntKind.u64.wrap (u * 4294967296) + u1) - IntKind.u64.wrap (Q * v)) = u * 4294967296 + u1 - Q * v := by
  simp only [IntKind.wrap_u64]
  generalize Q * v = z at *
  omega
theorem div_l1 {u v v1 v0 u1 Q q1 s : Int} (d : Digit u v v1 v0 u1 Q) (hv : v < 18446744073709551616) (hs : 0 ≤ s) :
    ∀ (n k : Nat) (q r : Int), q * v1 + r = u → Q ≤ q → q ≤ 4294967297 → 0 ≤ r → r < 4294967296 → 4294967296 - r ≤ n * 2147483648 → 2 * n + 2 ≤ k →
    bits_Div64.l1 k v s v1 v0 u1 q1 r u q = some (IntKind.u64.wrap (IntKind.u64.wrap (q1 * 4294967296) + Q), shr .u64 (u * 4294967296 + u1 - Q * v) s) := by
  intro n
  induction n with
  | zero => intro k q r h hQ hq hr0 hr1 hn hk; omega
  | succ n ih =>
    intro k q r h hQ hq hr0 hr1 hn hk
    obtain ⟨k, rfl⟩ : ∃ m, k = m + 2 := ⟨k - 2, by omega⟩
    have hQ0 := d.q0; have h1a := d.v1a; have h1b := d.v1b; have hua := d.u1a; have hub := d.u1b
    have key : ∀ b : Bool, (b = true ↔ (4294967296 ≤ q ∨ 4294967296 * r + u1 < q * v0)) →
        bits_Div64.j4 (k + 1) v s v1 v0 u1 q1 r u q b = some (IntKind.u64.wrap (IntKind.u64.wrap (q1 * 4294967296) + Q), shr .u64 (u * 4294967296 + u1 - Q * v) s) := by
      intro b hb
      simp only [bits_Div64.j4]
      cases b with
      | true =>
        have ht := hb.mp rfl
        have hy := d.yes h ht
        rw [if_pos rfl, u64_id (n := r + v1) (by omega) (by omega), u64_id (n := q - 1) (by omega) (by omega)]
        have h' : (q - 1) * v1 + (r + v1) = u := by rw [Int.sub_mul, Int.one_mul]; omega
        by_cases hr' : 4294967296 ≤ r + v1
        · rw [if_pos hr', if_pos hs, d.out h' hy (by omega) hr', rest_wrap d.qa d.qb hv]
        · rw [if_neg hr']
          exact ih k (q - 1) (r + v1) h' hy (by omega) (by omega) (by omega) (by omega) (by omega)
      | false =>
        have ht : ¬ (4294967296 ≤ q ∨ 4294967296 * r + u1 < q * v0) := fun h => by have := hb.mpr h; cases this
        have e := d.no h hQ (by omega)
        rw [if_neg (by simp), if_pos hs, e, rest_wrap d.qa d.qb hv]
    simp only [bits_Div64.l1]
    by_cases hq' : 4294967296 ≤ q
    · rw [if_pos hq']; exact key true ⟨fun _ => .inl hq', fun _ => rfl⟩
    · rw [if_neg hq']
      have hsm := d.small (q := q) (by omega) (by omega)
      refine key _ ?_
      rw [u64_id (n := q * v0) hsm.1 hsm.2, u64_id (n := 4294967296 * r) (by omega) (by omega), u64_id (n := 4294967296 * r + u1) (by omega) (by omega), decide_eq_true_eq]
      omega
theorem div_j2 {v v1 v0 u1 Q s u2 u0 Q1 : Int} (d1 : Digit u2 v v1 v0 u1 Q1) (d : Digit (u2 * 4294967296 + u1 - Q1 * v) v v1 v0 u0 Q) (hv : v < 18446744073709551616) (hs : 0 ≤ s) (k : Nat) (hk : 7 ≤ k) :
    bits_Div64.j2 k v s v1 v0 u2 u1 u0 Q1 = some (IntKind.u64.wrap (IntKind.u64.wrap (Q1 * 4294967296) + Q), shr .u64 ((u2 * 4294967296 + u1 - Q1 * v) * 4294967296 + u0 - Q * v) s) := by
  obtain ⟨k, rfl⟩ : ∃ m, k = m + 1 := ⟨k - 1, by omega⟩
  have h1 := d.v1a; have h2 := d.v1b; have hua := d.ua; have hub := d.ub
  simp only [bits_Div64.j2]
  rw [if_neg (by omega), rest_wrap d1.qa d1.qb hv]
  generalize hu : u2 * 4294967296 + u1 - Q1 * v = u at *
  obtain ⟨i1, i2, i3, i4, i5⟩ := d.init
  have h0 : 0 ≤ u / v1 := Int.ediv_nonneg hua (by omega)
  rw [Int.tdiv_eq_ediv_of_nonneg hua, u64_id (n := u / v1) h0 (by omega)]
  have e : IntKind.u64.wrap (u - IntKind.u64.wrap (u / v1 * v1)) = u - u / v1 * v1 := by
    have : 0 ≤ u / v1 * v1 := Int.mul_nonneg h0 (by omega)
    rw [u64_id (n := u / v1 * v1) this (by omega), u64_id (by omega) (by omega)]
  rw [e]
  exact div_l1 d hv hs 2 k (u / v1) (u - u / v1 * v1) i3 i1 i2 i4 (by omega) (by omega) (by omega)
theorem div_l0 {u v v1 v0 u1 u0 Q Q0 s : Int} (d : Digit u v v1 v0 u1 Q) (d0 : Digit (u * 4294967296 + u1 - Q * v) v v1 v0 u0 Q0) (hv : v < 18446744073709551616) (hs : 0 ≤ s) :
    ∀ (n k : Nat) (q r : Int), q * v1 + r = u → Q ≤ q → q ≤ 4294967297 → 0 ≤ r → r < 4294967296 → 4294967296 - r ≤ n * 2147483648 → 2 * n + 9 ≤ k →
    bits_Div64.l0 k v s v1 v0 u u1 u0 q r = some (IntKind.u64.wrap (IntKind.u64.wrap (Q * 4294967296) + Q0), shr .u64 ((u * 4294967296 + u1 - Q * v) * 4294967296 + u0 - Q0 * v) s) := by
  intro n
  induction n with
  | zero => intro k q r h hQ hq hr0 hr1 hn hk; omega
  | succ n ih =>
    intro k q r h hQ hq hr0 hr1 hn hk
    obtain ⟨k, rfl⟩ : ∃ m, k = m + 2 := ⟨k - 2, by omega⟩
    have hQ0 := d.q0; have h1a := d.v1a; have h1b := d.v1b; have hua := d.u1a; have hub := d.u1b
    have key : ∀ b : Bool, (b = true ↔ (4294967296 ≤ q ∨ 4294967296 * r + u1 < q * v0)) →
        bits_Div64.j1 (k + 1) v s v1 v0 u u1 u0 q r b = some (IntKind.u64.wrap (IntKind.u64.wrap (Q * 4294967296) + Q0), shr .u64 ((u * 4294967296 + u1 - Q * v) * 4294967296 + u0 - Q0 * v) s) := by
      intro b hb
      simp only [bits_Div64.j1]
      cases b with
      | true =>
        have ht := hb.mp rfl
        have hy := d.yes h ht
        rw [if_pos rfl, u64_id (n := r + v1) (by omega) (by omega), u64_id (n := q - 1) (by omega) (by omega)]
        have h' : (q - 1) * v1 + (r + v1) = u := by rw [Int.sub_mul, Int.one_mul]; omega
        by_cases hr' : 4294967296 ≤ r + v1
        · rw [if_pos hr', d.out h' hy (by omega) hr']
          exact div_j2 d d0 hv hs k (by omega)
        · rw [if_neg hr']
          exact ih k (q - 1) (r + v1) h' hy (by omega) (by omega) (by omega) (by omega) (by omega)
      | false =>
        have ht : ¬ (4294967296 ≤ q ∨ 4294967296 * r + u1 < q * v0) := fun h => by have := hb.mpr h; cases this
        have e := d.no h hQ (by omega)
        rw [if_neg (by simp), e]
        exact div_j2 d d0 hv hs k (by omega)
    simp only [bits_Div64.l0]
    by_cases hq' : 4294967296 ≤ q
    · rw [if_pos hq']; exact key true ⟨fun _ => .inl hq', fun _ => rfl⟩
    · rw [if_neg hq']
      have hsm := d.small (q := q) (by omega) (by omega)
      refine key _ ?_
      rw [u64_id (n := q * v0) hsm.1 hsm.2, u64_id (n := 4294967296 * r) (by omega) (by omega), u64_id (n := 4294967296 * r + u1) (by omega) (by omega), decide_eq_true_eq]
      omega
theorem bitLen_low : ∀ (f x : Nat), x ≠ 0 → x < 2 ^ f → 2 ^ (Lib.bitLenAux f x - 1) ≤ x ∧ x < 2 ^ Lib.bitLenAux f x ∧ 1 ≤ Lib.bitLenAux f x ∧ Lib.bitLenAux f x ≤ f := by
  intro f
  induction f with
  | zero => intro x h0 h1; simp at h1; omega
  | succ f ih =>
    intro x h0 h1
    simp only [Lib.bitLenAux]
    rw [if_neg h0]
    by_cases hx : x / 2 = 0
    · have : x = 1 := by omega
      subst this
      have : Lib.bitLenAux f (1 / 2) = 0 := by cases f <;> simp [Lib.bitLenAux]
      rw [this]; simp
    · obtain ⟨a, b, c, e⟩ := ih (x / 2) hx (by rw [Nat.pow_succ] at h1; omega)
      have e1 : 1 + Lib.bitLenAux f (x / 2) - 1 = (Lib.bitLenAux f (x / 2) - 1) + 1 := by omega
      refine ⟨?_, ?_, by omega, by omega⟩
      · rw [e1, Nat.pow_succ]; omega
      · rw [Nat.add_comm 1, Nat.pow_succ]; omega
theorem bitLen_bounds (x : Nat) (h0 : x ≠ 0) (h1 : x < 18446744073709551616) : 2 ^ (Lib.bitLen x - 1) ≤ x ∧ x < 2 ^ Lib.bitLen x ∧ 1 ≤ Lib.bitLen x ∧ Lib.bitLen x ≤ 64 :=
  bitLen_low 64 x h0 h1
theorem or_add (p : Nat) (a b : Nat) (hb : b < 2 ^ p) : (a * 2 ^ p) ||| b = a * 2 ^ p + b := by
  rw [Nat.mul_comm, Nat.two_pow_add_eq_or_of_lt hb]
/-- The shift: how far, what the numbers become. -/
theorem div_setup (hi lo y : Nat) (hy : hi < y) (hy1 : y < 18446744073709551616) (hl : lo < 18446744073709551616) :
    ∃ s : Nat, s < 64 ∧ 64 - Lib.bitLen y = s ∧ 9223372036854775808 ≤ y * 2 ^ s ∧ y * 2 ^ s < 18446744073709551616 ∧ hi * 2 ^ s < 18446744073709551616 ∧
      lo / 2 ^ (64 - s) < 2 ^ s ∧ (hi * 18446744073709551616 + lo) * 2 ^ s = (hi * 2 ^ s + lo / 2 ^ (64 - s)) * 18446744073709551616 + lo * 2 ^ s % 18446744073709551616 := by
  obtain ⟨h1, h2, h3, h4⟩ := bitLen_bounds y (by omega) hy1
  generalize hL : Lib.bitLen y = L at *
  refine ⟨64 - L, by omega, rfl, ?_, ?_, ?_, ?_, ?_⟩
  · have : (9223372036854775808 : Nat) = 2 ^ (L - 1) * 2 ^ (64 - L) := by rw [← Nat.pow_add, show L - 1 + (64 - L) = 63 by omega]
    rw [this]; exact Nat.mul_le_mul_right _ h1
  · have : (18446744073709551616 : Nat) = 2 ^ L * 2 ^ (64 - L) := by rw [← Nat.pow_add, show L + (64 - L) = 64 by omega]
    rw [this]; exact Nat.mul_lt_mul_of_pos_right h2 (Nat.two_pow_pos _)
  · have : (18446744073709551616 : Nat) = 2 ^ L * 2 ^ (64 - L) := by rw [← Nat.pow_add, show L + (64 - L) = 64 by omega]
    rw [this]; exact Nat.mul_lt_mul_of_pos_right (by omega) (Nat.two_pow_pos _)
  · rw [show 64 - (64 - L) = L by omega, Nat.div_lt_iff_lt_mul (Nat.two_pow_pos _), ← Nat.pow_add, show 64 - L + L = 64 by omega]; exact hl
  · rw [show 64 - (64 - L) = L by omega]
    have hp : (18446744073709551616 : Nat) = 2 ^ L * 2 ^ (64 - L) := by rw [← Nat.pow_add, show L + (64 - L) = 64 by omega]
    have h := Nat.div_add_mod (lo * 2 ^ (64 - L)) 18446744073709551616
    have e : lo * 2 ^ (64 - L) / 18446744073709551616 = lo / 2 ^ L := by
      rw [hp]; exact Nat.mul_div_mul_right _ _ (Nat.two_pow_pos _)
    rw [e] at h
    rw [Nat.add_mul, Nat.add_mul, Nat.mul_assoc, Nat.mul_comm 18446744073709551616 (2 ^ (64 - L)), ← Nat.mul_assoc]
    omega
theorem shl_nat (x s : Nat) (hs : s < 64) : shl .u64 (x : Int) (s : Int) = ((x * 2 ^ s % 18446744073709551616 : Nat) : Int) := by
  unfold shl
  rw [IntKind.wrap_u64, show min ((s : Int).toNat) (IntKind.u64.bits) = s by simp [IntKind.bits]; omega]
  simp
theorem shr_nat (x s : Nat) (hs : s ≤ 64) : shr .u64 (x : Int) (s : Int) = ((x / 2 ^ s : Nat) : Int) := by
  unfold shr
  rw [show min ((s : Int).toNat) (IntKind.u64.bits) = s by simp [IntKind.bits]; omega]
  simp
/-- A digit, out of the division itself. -/
theorem Digit.of {u v v1 v0 u1 : Int} (hv : v = v1 * 4294967296 + v0) (v0a : 0 ≤ v0) (v0b : v0 < 4294967296) (v1a : 2147483648 ≤ v1) (v1b : v1 < 4294967296) (ua : 0 ≤ u) (ub : u < v) (u1a : 0 ≤ u1) (u1b : u1 < 4294967296) :
    Digit u v v1 v0 u1 ((u * 4294967296 + u1) / v) := by
  have h := Int.mul_ediv_add_emod (u * 4294967296 + u1) v
  have hm := Int.emod_nonneg (u * 4294967296 + u1) (show v ≠ 0 by omega)
  have hl := Int.emod_lt_of_pos (u * 4294967296 + u1) (show 0 < v by omega)
  rw [Int.mul_comm] at h
  exact ⟨hv, v0a, v0b, v1a, v1b, ua, ub, u1a, u1b, by omega, by omega⟩
/-- math/bits.Div64: the quotient, and what is left over. -/
theorem div64_eq (hi lo y : Nat) (hy : hi < y) (hy1 : y < 18446744073709551616) (hl : lo < 18446744073709551616) (k : Nat) (hk : 20 ≤ k) :
    bits_Div64.f k hi lo y = some ((((hi * 18446744073709551616 + lo) / y : Nat) : Int), (((hi * 18446744073709551616 + lo) % y : Nat) : Int)) := by
  unfold bits_Div64.f
  rw [if_neg (by omega), if_neg (by omega)]
  by_cases h0 : hi = 0
  · subst h0
    rw [if_pos (show ((0 : Nat) : Int) = 0 from rfl), Int.tdiv_eq_ediv_of_nonneg (by omega), Int.tmod_eq_emod_of_nonneg (by omega)]
    have : lo / y ≤ lo := Nat.div_le_self _ _
    rw [Nat.zero_mul, Nat.zero_add, ← Int.natCast_ediv, ← Int.natCast_emod]
    generalize lo / y = z at *
    rw [u64_id (by omega) (by omega)]
  · rw [if_neg (by omega)]
    obtain ⟨s, hs, hL, a1, a2, a3, a4, a5⟩ := div_setup hi lo y hy hy1 hl
    obtain ⟨_, _, l1, l2⟩ := bitLen_bounds y (by omega) hy1
    have e0 : bits_LeadingZeros64.f (y : Int) = some (s : Int) := by
      unfold bits_LeadingZeros64.f bits_Len64.f
      rw [if_pos (by omega)]
      simp only [Option.bind_some, Int.toNat_natCast]
      rw [w64_id (by omega) (by omega)]
      congr 1; omega
    rw [e0]
    simp only [Option.bind_some]
    rw [u64_id (n := (s : Int)) (by omega) (by omega), if_pos (by omega), u64_id (n := 64 - (s : Int)) (by omega) (by omega), if_pos (by omega)]
    have e1 : (64 : Int) - (s : Int) = ((64 - s : Nat) : Int) := by omega
    rw [e1, shl_nat y s hs, shl_nat hi s hs, shl_nat lo s hs, shr_nat lo (64 - s) (by omega), Nat.mod_eq_of_lt a2, Nat.mod_eq_of_lt a3]
    rw [u64_or_nat _ _ a3 (by have : 2 ^ s ≤ 2 ^ 63 := Nat.pow_le_pow_right (by omega) (by omega); omega), or_add s hi _ a4]
    generalize hV : y * 2 ^ s = V at *
    generalize hU : hi * 2 ^ s + lo / 2 ^ (64 - s) = U at *
    generalize hR : lo * 2 ^ s % 18446744073709551616 = R at *
    have hR1 : R < 18446744073709551616 := by omega
    have hUV : U < V := by
      have h1 : (hi + 1) * 2 ^ s ≤ V := by rw [← hV]; exact Nat.mul_le_mul_right _ hy
      rw [Nat.add_mul, Nat.one_mul] at h1
      omega
    rw [and_low32 _ (by omega) (by omega), and_low32 _ (by omega) (by omega)]
    rw [if_neg (by omega)]
    have d1 := Digit.of (u := U) (v := V) (v1 := (V : Int) / 4294967296) (v0 := (V : Int) % 4294967296) (u1 := (R : Int) / 4294967296) (by omega) (by omega) (by omega) (by omega) (by omega) (by omega) (by omega) (by omega) (by omega)
    generalize hQ1 : ((U : Int) * 4294967296 + (R : Int) / 4294967296) / (V : Int) = Q1 at *
    have b1 := d1.qa
    have b2 := d1.qb
    have d0 := Digit.of (u := (U : Int) * 4294967296 + (R : Int) / 4294967296 - Q1 * V) (v := V) (v1 := (V : Int) / 4294967296) (v0 := (V : Int) % 4294967296) (u1 := (R : Int) % 4294967296) (by omega) (by omega) (by omega) (by omega) (by omega) (by omega) (by omega) (by omega) (by omega)
    generalize hQ0 : (((U : Int) * 4294967296 + (R : Int) / 4294967296 - Q1 * V) * 4294967296 + (R : Int) % 4294967296) / (V : Int) = Q0 at *
    obtain ⟨i1, i2, i3, i4, i5⟩ := d1.init
    have hq := Int.ediv_nonneg (a := (U : Int)) (b := (V : Int) / 4294967296) (by omega) (by omega)
    have hq2 := Int.mul_nonneg hq (show 0 ≤ (V : Int) / 4294967296 by omega)
    rw [Int.tdiv_eq_ediv_of_nonneg (by omega), u64_id (n := (U : Int) / ((V : Int) / 4294967296)) hq (by omega),
      u64_id (n := (U : Int) / ((V : Int) / 4294967296) * ((V : Int) / 4294967296)) hq2 (by omega), u64_id (n := (U : Int) - (U : Int) / ((V : Int) / 4294967296) * ((V : Int) / 4294967296)) (by omega) (by omega)]
    rw [div_l0 d1 d0 (by omega) (by omega) 2 k _ _ i3 i1 i2 i4 (by omega) (by omega) (by omega)]
    have c1 := d0.qa
    have c2 := d0.qb
    have c3 := d1.q0
    have c4 := d1.qB
    have c5 := d0.q0
    have c6 := d0.qB
    rw [u64_id (n := Q1 * 4294967296) (by omega) (by omega), u64_id (by omega) (by omega)]
    -- what it comes to
    obtain ⟨q, hq'⟩ := Int.eq_ofNat_of_zero_le (show 0 ≤ Q1 * 4294967296 + Q0 by omega)
    obtain ⟨r, hr'⟩ := Int.eq_ofNat_of_zero_le (show 0 ≤ ((U : Int) * 4294967296 + (R : Int) / 4294967296 - Q1 * V) * 4294967296 + (R : Int) % 4294967296 - Q0 * V by omega)
    rw [hr', shr_nat r s (by omega), hq']
    have hrV : r < V := by omega
    have hsum : (hi * 18446744073709551616 + lo) * 2 ^ s = q * V + r := by
      rw [a5]
      have hqV : (q : Int) * V = Q1 * V * 4294967296 + Q0 * V := by
        rw [← hq', Int.add_mul, Int.mul_assoc, Int.mul_comm 4294967296, ← Int.mul_assoc]
      have : ((U * 18446744073709551616 + R : Nat) : Int) = ((q * V + r : Nat) : Int) := by
        rw [Int.natCast_add, Int.natCast_add, Int.natCast_mul q V, hqV]
        omega
      exact Int.natCast_inj.mp this
    obtain ⟨M, hM⟩ : ∃ M, M = hi * 18446744073709551616 + lo := ⟨_, rfl⟩
    rw [← hM] at hsum ⊢
    have hp := Nat.two_pow_pos s
    have hdiv : M / y = q := by
      have : M * 2 ^ s / (y * 2 ^ s) = q := by
        rw [hsum, hV]
        rw [Nat.mul_comm q V, Nat.mul_add_div (by omega), Nat.div_eq_of_lt hrV]; rfl
      rwa [Nat.mul_div_mul_right _ _ hp] at this
    have hmod : M % y = r / 2 ^ s := by
      have : M * 2 ^ s % (y * 2 ^ s) = r := by
        rw [hsum, hV, Nat.mul_comm q V, Nat.mul_add_mod, Nat.mod_eq_of_lt hrV]
      rw [Nat.mul_mod_mul_right] at this
      rw [← this, Nat.mul_div_cancel _ hp]
    rw [hdiv, hmod]
end Go.Proofs.Ytnofihkmgedbfaa.P
namespace Go.Proofs.Ytnofihkmgedbfaa.P
open Go.RowKit Go.Proofs.YtnofihkmgedbfaaW.PrintWords Go.Proofs.YtnofihkmgedbfaaW.PrintLast Go.Proofs.YtnofihkmgedbfaaW.PrintMore
/-- Is it a number of 64 bits? -/
def I64 (x : Int) : Prop := -9223372036854775808 ≤ x ∧ x ≤ 9223372036854775807
instance (x : Int) : Decidable (I64 x) := by unfold I64; infer_instance
/-- A number and true, or 0 and false. -/
def num (x : Int) : Int × Bool := if I64 x then (x, true) else (0, false)
theorem num_yes {x : Int} (h : I64 x) : num x = (x, true) := by unfold num; rw [if_pos h]
theorem num_no {x : Int} (h : ¬ I64 x) : num x = (0, false) := by unfold num; rw [if_neg h]
/-- The floor of a quotient. -/
def fl (p c : Int) : Int := if 0 < c then p / c else (-p) / (-c)
theorem fl_spec (p : Int) {c : Int} (hc : c ≠ 0) : ∃ m, fl p c * c + m = p ∧ (0 < c → 0 ≤ m ∧ m < c) ∧ (c < 0 → c < m ∧ m ≤ 0) := by
  unfold fl
  by_cases h : 0 < c
  · rw [if_pos h]
    refine ⟨p % c, Int.ediv_mul_add_emod p c, fun _ => ⟨Int.emod_nonneg _ hc, Int.emod_lt_of_pos _ h⟩, fun h' => by omega⟩
  · rw [if_neg h]
    have e := Int.ediv_mul_add_emod (-p) (-c)
    rw [Int.mul_neg] at e
    have h1 := Int.emod_nonneg (-p) (show -c ≠ 0 by omega)
    have h2 := Int.emod_lt_of_pos (-p) (show 0 < -c by omega)
    exact ⟨-((-p) % (-c)), by omega, fun h' => by omega, fun _ => by omega⟩
theorem fl_unique {p c f m : Int} (hc : c ≠ 0) (h : f * c + m = p) (h1 : 0 < c → 0 ≤ m ∧ m < c) (h2 : c < 0 → c < m ∧ m ≤ 0) : fl p c = f := by
  obtain ⟨m', e, e1, e2⟩ := fl_spec p hc
  have key : (fl p c - f) * c = m - m' := by rw [Int.sub_mul]; omega
  rcases Int.lt_or_gt_of_ne hc with hn | hp
  · have a := e2 hn; have b := h2 hn
    have k1 : (fl p c - f) * c < (-1) * c := by omega
    have k2 : 1 * c < (fl p c - f) * c := by omega
    have l1 : -1 < fl p c - f := by
      rcases Int.lt_or_le (-1) (fl p c - f) with h | h
      · exact h
      · have := Int.mul_le_mul_of_nonpos_right h (Int.le_of_lt hn); omega
    have l2 : fl p c - f < 1 := by
      rcases Int.lt_or_le (fl p c - f) 1 with h | h
      · exact h
      · have := Int.mul_le_mul_of_nonpos_right h (Int.le_of_lt hn); omega
    omega
  · have a := e1 hp; have b := h1 hp
    have l1 : -1 < fl p c - f := lt_of_mul hp (by omega)
    have l2 : fl p c - f < 1 := lt_of_mul hp (by omega)
    omega
theorem mul_bound {a b : Int} {L M : Nat} (ha : a.natAbs ≤ L) (hb : b.natAbs ≤ M) : (a * b).natAbs ≤ L * M := by
  rw [Int.natAbs_mul]; exact Nat.mul_le_mul ha hb
theorem prod_bound {a b : Int} (ha : I64 a) (hb : I64 b) : (a * b).natAbs ≤ 85070591730234615865843651857942052864 := by
  have := mul_bound (a := a) (b := b) (L := 9223372036854775808) (M := 9223372036854775808) (by unfold I64 at ha; omega) (by unfold I64 at hb; omega)
  exact this
theorem times_eq {a b : Int} (ha : I64 a) (hb : I64 b) : fix_times.f a b = some (a * b / 18446744073709551616, a * b % 18446744073709551616) := by
  have hP := prod_bound ha hb
  unfold I64 at ha hb
  have key : ∀ (A B : Int), (A = a ∨ A = a + 18446744073709551616) → (B = b ∨ B = b + 18446744073709551616) → 0 ≤ A → A < 18446744073709551616 → 0 ≤ B → B < 18446744073709551616 →
      A * B / 18446744073709551616 = a * b / 18446744073709551616 + (if A = a then 0 else b) + (if B = b then 0 else a) + (if A = a ∨ B = b then 0 else 18446744073709551616) ∧ A * B % 18446744073709551616 = a * b % 18446744073709551616 := by
    intro A B h1 h2 _ _ _ _
    rcases h1 with rfl | rfl <;> rcases h2 with rfl | rfl
    · simp
    · rw [Int.mul_add, if_pos rfl, if_neg (by omega), if_pos (by simp)]
      generalize A * b = z at *
      omega
    · rw [Int.add_mul, if_neg (by omega), if_pos rfl, if_pos (by simp)]
      generalize a * B = z at *
      omega
    · rw [Int.add_mul, Int.mul_add, Int.mul_add, if_neg (by omega), if_neg (by omega), if_neg (by omega)]
      generalize a * b = z at *
      omega
  unfold fix_times.f bits_Mul64.f
  have wa : IntKind.u64.wrap a = a ∨ IntKind.u64.wrap a = a + 18446744073709551616 := by rw [IntKind.wrap_u64]; omega
  have wb : IntKind.u64.wrap b = b ∨ IntKind.u64.wrap b = b + 18446744073709551616 := by rw [IntKind.wrap_u64]; omega
  have ra : 0 ≤ IntKind.u64.wrap a ∧ IntKind.u64.wrap a < 18446744073709551616 := by rw [IntKind.wrap_u64]; omega
  have rb : 0 ≤ IntKind.u64.wrap b ∧ IntKind.u64.wrap b < 18446744073709551616 := by rw [IntKind.wrap_u64]; omega
  generalize hA : IntKind.u64.wrap a = A at *
  generalize hB : IntKind.u64.wrap b = B at *
  obtain ⟨k1, k2⟩ := key A B wa wb ra.1 ra.2 rb.1 rb.2
  rw [if_pos (by omega)]
  simp only [Option.bind_some]
  rw [k1, k2]
  generalize a * b = P at *
  have hq : -4611686018427387904 ≤ P / 18446744073709551616 ∧ P / 18446744073709551616 ≤ 4611686018427387904 := by omega
  generalize hr : P % 18446744073709551616 = r at *
  generalize P / 18446744073709551616 = q at *
  clear key k1 k2
  by_cases h1 : a < 0
  · have : A = a + 18446744073709551616 := by omega
    rw [if_pos h1, if_neg (show ¬ A = a by omega)]
    by_cases h2 : b < 0
    · rw [if_pos h2, if_neg (show ¬ B = b by omega), if_neg (by omega)]
      congr 2; simp only [IntKind.wrap_u64, wrap64]; omega
    · rw [if_neg h2, if_pos (show B = b by omega), if_pos (by omega)]
      congr 2; simp only [IntKind.wrap_u64, wrap64]; omega
  · rw [if_neg h1, if_pos (show A = a by omega)]
    by_cases h2 : b < 0
    · rw [if_pos h2, if_neg (show ¬ B = b by omega), if_pos (by omega)]
      congr 2; simp only [IntKind.wrap_u64, wrap64]; omega
    · rw [if_neg h2, if_pos (show B = b by omega), if_pos (by omega)]
      congr 2; simp only [wrap64]; omega
theorem abs_eq {P : Int} (hP : P.natAbs ≤ 85070591730234615865843651857942052864) :
    fix_wide_abs.f (P / 18446744073709551616) (P % 18446744073709551616) = some (((P.natAbs / 18446744073709551616 : Nat) : Int), ((P.natAbs % 18446744073709551616 : Nat) : Int), decide (P < 0)) := by
  unfold fix_wide_abs.f
  by_cases h : P < 0
  · rw [if_neg (by omega), decide_eq_true h]
    have e1 : sub64d 0 (P % 18446744073709551616) 0 = ((P.natAbs % 18446744073709551616 : Nat) : Int) := by
      unfold sub64d; simp only [Int.toNat_zero]; congr 1; omega
    have e2 : sub64b 0 (P % 18446744073709551616) 0 = if P % 18446744073709551616 = 0 then 0 else 1 := by
      unfold sub64b; simp only [Int.toNat_zero]
      by_cases h0 : P % 18446744073709551616 = 0
      · rw [if_pos h0, if_neg (by omega)]; rfl
      · rw [if_neg h0, if_pos (by omega)]; rfl
    rw [e1, e2]
    have e3 : sub64d 0 (IntKind.u64.wrap (P / 18446744073709551616)) (if P % 18446744073709551616 = 0 then 0 else 1) = ((P.natAbs / 18446744073709551616 : Nat) : Int) := by
      rw [IntKind.wrap_u64]
      unfold sub64d; simp only [Int.toNat_zero]
      by_cases h0 : P % 18446744073709551616 = 0
      · rw [if_pos h0]; simp only [Int.toNat_zero]; congr 1; omega
      · rw [if_neg h0]; simp only [Int.toNat_one]; congr 1; omega
    rw [e3]
  · rw [if_pos (by omega), decide_eq_false h, u64_id (by omega) (by omega)]
    congr 2
    · omega
    · congr 1; omega
theorem size_eq {a : Int} (ha : I64 a) : fix_size.f a = some (a.natAbs : Int) := by
  unfold fix_size.f; unfold I64 at ha
  by_cases h : a < 0
  · rw [if_pos h]; congr 1; simp only [IntKind.wrap_u64]; omega
  · rw [if_neg h]; congr 1; simp only [IntKind.wrap_u64]; omega
/-- The answer, out of the sizes' quotient. -/
theorem fl_abs {P c : Int} (hc : c ≠ 0) :
    fl P c = if P < 0 ↔ c < 0 then ((P.natAbs / c.natAbs : Nat) : Int) else if P.natAbs % c.natAbs = 0 then -((P.natAbs / c.natAbs : Nat) : Int) else -((P.natAbs / c.natAbs : Nat) : Int) - 1 := by
  have hd := Nat.div_add_mod P.natAbs c.natAbs
  have hl := Nat.mod_lt P.natAbs (show 0 < c.natAbs by omega)
  generalize hq : P.natAbs / c.natAbs = q at *
  generalize hr : P.natAbs % c.natAbs = r at *
  have hd' : ((c.natAbs : Int)) * q + r = (P.natAbs : Int) := by rw [← Int.natCast_mul]; omega
  by_cases hn : c < 0
  · have ec : (c.natAbs : Int) = -c := by omega
    rw [ec, Int.neg_mul] at hd'
    by_cases hP : P < 0
    · rw [if_pos (by omega)]
      exact fl_unique (m := -r) hc (by rw [Int.mul_comm]; omega) (fun h => by omega) (fun _ => by omega)
    · rw [if_neg (by omega)]
      by_cases h0 : r = 0
      · rw [if_pos h0]
        exact fl_unique (m := 0) hc (by rw [Int.neg_mul, Int.mul_comm]; omega) (fun h => by omega) (fun _ => by omega)
      · rw [if_neg h0]
        exact fl_unique (m := c + r) hc (by rw [Int.sub_mul, Int.neg_mul, Int.one_mul, Int.mul_comm]; omega) (fun h => by omega) (fun _ => by omega)
  · have ec : (c.natAbs : Int) = c := by omega
    rw [ec] at hd'
    by_cases hP : P < 0
    · rw [if_neg (by omega)]
      by_cases h0 : r = 0
      · rw [if_pos h0]
        exact fl_unique (m := 0) hc (by rw [Int.neg_mul, Int.mul_comm]; omega) (fun _ => by omega) (fun h => by omega)
      · rw [if_neg h0]
        exact fl_unique (m := c - r) hc (by rw [Int.sub_mul, Int.neg_mul, Int.one_mul, Int.mul_comm]; omega) (fun _ => by omega) (fun h => by omega)
    · rw [if_pos (by omega)]
      exact fl_unique (m := r) hc (by rw [Int.mul_comm]; omega) (fun _ => by omega) (fun h => by omega)
theorem narrowed_f (q : Int) : fix_narrowed.f q false = some (decide (q ≤ 9223372036854775807)) := by
  simp [fix_narrowed.f]
theorem narrowed_t (q : Int) : fix_narrowed.f q true = some (decide (q ≤ 9223372036854775808)) := by
  simp only [fix_narrowed.f, if_true]
theorem up_wrap {q : Nat} (h1 : ¬ IntKind.u64.wrap ((q : Int) + 1) = 0) (hq : q < 18446744073709551616) : IntKind.u64.wrap ((q : Int) + 1) = q + 1 := by
  rw [IntKind.wrap_u64] at h1 ⊢; omega
theorem up_over {q : Nat} (h1 : IntKind.u64.wrap ((q : Int) + 1) = 0) : ¬ I64 (-(q : Int) - 1) := by
  rw [IntKind.wrap_u64] at h1; unfold I64; omega
theorem down_wrap {q : Int} (h0 : 0 ≤ q) (h : q ≤ 9223372036854775808) : wrap64 (IntKind.u64.wrap (-q)) = -q := by
  simp only [IntKind.wrap_u64, wrap64]; omega
theorem muldiv_t (q r : Int) (k : Nat) : fix_MulDiv.j0 (k + 1) q r true = if q ≤ 9223372036854775807 then some (wrap64 q, true) else some (0, false) := by
  simp [fix_MulDiv.j0, narrowed_f]
theorem muldiv_f0 (q : Int) (k : Nat) : fix_MulDiv.j0 (k + 1) q 0 false = if q ≤ 9223372036854775808 then some (wrap64 (IntKind.u64.wrap (-q)), true) else some (0, false) := by
  simp [fix_MulDiv.j0, narrowed_t]
theorem muldiv_f (q r : Int) (h : 0 < r) (k : Nat) : fix_MulDiv.j0 (k + 1) q r false = if IntKind.u64.wrap (q + 1) = 0 then some (0, false) else if IntKind.u64.wrap (q + 1) ≤ 9223372036854775808 then some (wrap64 (IntKind.u64.wrap (-(IntKind.u64.wrap (q + 1)))), true) else some (0, false) := by
  simp only [fix_MulDiv.j0, narrowed_t, Option.bind_some, decide_eq_true_eq]
  rw [if_neg (by simp), if_pos h]
theorem muldiv_up (q r : Nat) (hr : 0 < r) (hq : q < 18446744073709551616) (k : Nat) : fix_MulDiv.j0 (k + 1) q r false = some (num (-(q : Int) - 1)) := by
  rw [muldiv_f _ _ (by omega)]
  by_cases h1 : IntKind.u64.wrap ((q : Int) + 1) = 0
  · rw [if_pos h1, num_no (up_over h1)]
  · rw [if_neg h1]
    have e := up_wrap h1 hq
    generalize IntKind.u64.wrap ((q : Int) + 1) = z at *
    subst e
    by_cases h : (q : Int) + 1 ≤ 9223372036854775808
    · rw [if_pos h, down_wrap (by omega) h, num_yes (by unfold I64; omega), Int.neg_add]; rfl
    · rw [if_neg h, num_no (by unfold I64; omega)]
theorem muldiv_j0 (q r : Nat) (hq : q < 18446744073709551616) (b : Bool) (k : Nat) :
    fix_MulDiv.j0 (k + 1) q r b = some (num (if b then (q : Int) else if r = 0 then -(q : Int) else -(q : Int) - 1)) := by
  cases b with
  | true =>
    rw [muldiv_t, if_pos rfl]
    by_cases h : (q : Int) ≤ 9223372036854775807
    · rw [if_pos h, w64_id (by omega) (by omega), num_yes (by unfold I64; omega)]
    · rw [if_neg h, num_no (by unfold I64; omega)]
  | false =>
    rw [if_neg (show ¬ (false = true) by simp)]
    by_cases h0 : r = 0
    · subst h0
      rw [if_pos rfl, show ((0 : Nat) : Int) = 0 from rfl, muldiv_f0]
      by_cases h : (q : Int) ≤ 9223372036854775808
      · rw [if_pos h, down_wrap (by omega) h, num_yes (by unfold I64; omega)]
      · rw [if_neg h, num_no (by unfold I64; omega)]
    · rw [if_neg h0, muldiv_up q r (by omega) hq]
/-- The floor of a product by a number. -/
def md (a b c : Int) : Int × Bool := if c = 0 then (0, false) else num (fl (a * b) c)
theorem mulDiv_eq {a b c : Int} (ha : I64 a) (hb : I64 b) (hc : I64 c) (k : Nat) (hk : 20 ≤ k) : fix_MulDiv.f k a b c = some (md a b c) := by
  unfold fix_MulDiv.f md
  by_cases h0 : c = 0
  · rw [if_pos h0, if_pos h0]
  · rw [if_neg h0, if_neg h0, times_eq ha hb]
    simp only [Option.bind_some]
    have hP := prod_bound ha hb
    generalize a * b = P at *
    rw [abs_eq hP]
    simp only [Option.bind_some]
    rw [size_eq hc]
    simp only [Option.bind_some]
    unfold I64 at hc
    have hfa := fl_abs (P := P) h0
    have hd := Nat.div_add_mod P.natAbs c.natAbs
    have hl := Nat.mod_lt P.natAbs (show 0 < c.natAbs by omega)
    by_cases hbig : ((P.natAbs / 18446744073709551616 : Nat) : Int) ≥ (c.natAbs : Int)
    · rw [if_pos hbig]
      have h1 : c.natAbs ≤ P.natAbs / 18446744073709551616 := by omega
      have h2 : 18446744073709551616 ≤ P.natAbs / c.natAbs := by
        rw [Nat.le_div_iff_mul_le (by omega), Nat.mul_comm]
        exact (Nat.le_div_iff_mul_le (by omega)).mp h1
      have : ¬ I64 (fl P c) := by
        rw [hfa]; unfold I64; split
        · omega
        · split <;> omega
      unfold num; rw [if_neg this]
    · rw [if_neg hbig]
      have hm : P.natAbs = P.natAbs / 18446744073709551616 * 18446744073709551616 + P.natAbs % 18446744073709551616 := by omega
      rw [div64_eq _ _ _ (by omega) (by omega) (by omega) k hk, ← hm]
      simp only [Option.bind_some]
      have hq : P.natAbs / c.natAbs < 18446744073709551616 := by
        rw [Nat.div_lt_iff_lt_mul (by omega)]
        have : P.natAbs / 18446744073709551616 < c.natAbs := by omega
        have := (Nat.div_lt_iff_lt_mul (show 0 < 18446744073709551616 by omega)).mp this
        rwa [Nat.mul_comm] at this
      obtain ⟨k, rfl⟩ : ∃ m, k = m + 1 := ⟨k - 1, by omega⟩
      rw [hfa]
      generalize P.natAbs / c.natAbs = q at *
      generalize P.natAbs % c.natAbs = r at *
      by_cases hs : P < 0 ↔ c < 0
      · rw [if_pos hs, if_pos (by simp [hs]), muldiv_j0 q r hq]; rfl
      · have hbe : (decide (P < 0) == decide (c < 0)) = false := by
          by_cases x : P < 0 <;> by_cases y : c < 0 <;> simp [x, y] at hs ⊢
        rw [if_neg hs, if_neg (by rw [hbe]; simp)]
        by_cases hq0 : (q : Int) = 0
        · rw [if_pos hq0, muldiv_j0 q r hq]
          by_cases hr0 : r = 0
          · have : ((r : Int) == 0) = true := by simp [hr0]
            rw [this, if_pos hr0]; simp; congr 1; omega
          · have : ((r : Int) == 0) = false := by simp [hr0]
            rw [this, if_neg hr0]; simp
        · rw [if_neg hq0, muldiv_j0 q r hq]; simp
theorem floor_eq {a b : Int} (ha : I64 a) (hb : I64 b) (k : Nat) (hk : 20 ≤ k) : fix_Floor.f k a b = some (md a 1 b) := by
  unfold fix_Floor.f
  rw [mulDiv_eq ha (by unfold I64; omega) hb k hk]
  rfl
theorem add_eq {a b : Int} (ha : I64 a) (hb : I64 b) : fix_Add.f a b = some (num (a + b)) := by
  unfold fix_Add.f
  by_cases h : I64 (a + b)
  · rw [num_yes h]
    unfold I64 at *
    rw [w64_id (by omega) (by omega)]
    by_cases h1 : a + b > a <;> by_cases h2 : b > 0
    · rw [decide_eq_true h1, decide_eq_true h2, if_neg (by simp)]
    · omega
    · omega
    · rw [decide_eq_false h1, decide_eq_false h2, if_neg (by simp)]
  · rw [num_no h]
    unfold I64 at *
    by_cases h2 : b > 0
    · have h1 : ¬ wrap64 (a + b) > a := by unfold wrap64; omega
      rw [decide_eq_false h1, decide_eq_true h2, if_pos (by simp), if_neg (by omega)]
    · have h1 : wrap64 (a + b) > a := by unfold wrap64; omega
      rw [decide_eq_true h1, decide_eq_false h2, if_pos (by simp), if_neg (by omega)]
/-- The floor of a quotient and one half. -/
def rnd (a b : Int) : Int := fl (2 * a + b) (2 * b)
def rd2 (a b : Int) : Int × Bool := if b = 0 then (0, false) else num (rnd a b)
/-- By what is left over: one more where it is half the divisor, or more. -/
theorem rnd_left {a b : Int} (hb : b ≠ 0) : ∃ m, fl a b * b + m = a ∧ (0 < b → 0 ≤ m ∧ m < b) ∧ (b < 0 → b < m ∧ m ≤ 0) ∧ rnd a b = if b.natAbs ≤ 2 * m.natAbs then fl a b + 1 else fl a b := by
  obtain ⟨m, e, e1, e2⟩ := fl_spec a hb
  refine ⟨m, e, e1, e2, ?_⟩
  unfold rnd
  generalize fl a b = q at *
  have ee : 2 * (q * b) + 2 * m = 2 * a := by omega
  have e3 : q * (2 * b) = 2 * (q * b) := by rw [← Int.mul_assoc, Int.mul_comm q 2, Int.mul_assoc]
  by_cases h : b.natAbs ≤ 2 * m.natAbs
  · rw [if_pos h]
    exact fl_unique (m := 2 * m - b) (by omega) (by rw [Int.add_mul, Int.one_mul, e3]; omega) (fun hp => by have := e1 (by omega); omega) (fun hp => by have := e2 (by omega); omega)
  · rw [if_neg h]
    exact fl_unique (m := 2 * m + b) (by omega) (by rw [e3]; omega) (fun hp => by have := e1 (by omega); omega) (fun hp => by have := e2 (by omega); omega)
theorem fl_over {a b : Int} (ha : I64 a) (hb : I64 b) (h0 : b ≠ 0) (h : ¬ I64 (fl a b)) : a = -9223372036854775808 ∧ b = -1 := by
  rw [fl_abs h0] at h
  unfold I64 at *
  have hd := Nat.div_add_mod a.natAbs b.natAbs
  have hle := Nat.div_le_self a.natAbs b.natAbs
  have hl := Nat.mod_lt a.natAbs (show 0 < b.natAbs by omega)
  by_cases h1 : b.natAbs = 1
  · rw [h1, Nat.div_one, Nat.mod_one] at h
    simp only [if_true] at h
    split at h <;> omega
  · have h2 : a.natAbs / b.natAbs ≤ a.natAbs / 2 := Nat.div_le_div_left (by omega) (by omega)
    generalize a.natAbs / b.natAbs = q at *
    split at h
    · omega
    · split at h <;> omega
theorem round_eq {a b : Int} (ha : I64 a) (hb : I64 b) (k : Nat) (hk : 20 ≤ k) : fix_Round.f k a b = some (rd2 a b) := by
  unfold fix_Round.f rd2
  rw [floor_eq ha hb k hk]
  simp only [Option.bind_some]
  unfold md
  rw [Int.mul_one]
  by_cases h0 : b = 0
  · rw [if_pos h0, if_pos h0]; simp
  · rw [if_neg h0, if_neg h0]
    obtain ⟨m, e, e1, e2, e3⟩ := rnd_left (a := a) h0
    unfold num
    by_cases hf : I64 (fl a b)
    · rw [if_pos hf]
      simp only [if_true]
      have hov : wrap64 (a - wrap64 (fl a b * b)) = m := by
        have hm : -9223372036854775808 < m ∧ m ≤ 9223372036854775807 := by
          unfold I64 at hb
          rcases Int.lt_or_gt_of_ne h0 with h | h
          · have := e2 h; omega
          · have := e1 h; omega
        generalize fl a b * b = z at *
        unfold wrap64; omega
      rw [hov]
      have hm : I64 m := by
        unfold I64 at hb ⊢
        rcases Int.lt_or_gt_of_ne h0 with h | h
        · have := e2 h; omega
        · have := e1 h; omega
      have hmb : m.natAbs < b.natAbs := by
        rcases Int.lt_or_gt_of_ne h0 with h | h
        · have := e2 h; omega
        · have := e1 h; omega
      rw [size_eq hm, size_eq hb]
      simp only [Option.bind_some]
      unfold I64 at hb
      rw [u64_id (by omega) (by omega), e3]
      by_cases h : b.natAbs ≤ 2 * m.natAbs
      · rw [if_pos (by omega), if_pos h, add_eq hf (by unfold I64; omega)]
        simp only [Option.bind_some]
        unfold num; rfl
      · rw [if_neg (by omega), if_neg h, if_pos hf]
    · rw [if_neg hf]
      obtain ⟨r1, r2⟩ := fl_over ha hb h0 hf
      subst r1; subst r2
      have : ¬ I64 (rnd (-9223372036854775808) (-1)) := by decide
      rw [if_neg this]; rfl
end Go.Proofs.Ytnofihkmgedbfaa.P
namespace Go.Proofs.Ytnofihkmgedbfaa.P
open Go.RowKit Go.Proofs.YtnofihkmgedbfaaW.PrintWords Go.Proofs.YtnofihkmgedbfaaW.PrintLast Go.Proofs.YtnofihkmgedbfaaW.PrintMore
/-- All of them are digits. -/
def Dig (l : List Int) : Prop := ∀ j, 0 ≤ rd l (j : Nat) ∧ rd l (j : Nat) < 65536
theorem rd_drop (l : List Int) (i j : Nat) : rd (l.drop i) (j : Int) = rd l ((i + j : Nat) : Int) := by
  unfold rd; rw [Int.toNat_natCast, Int.toNat_natCast]; simp [List.getD_eq_getElem?_getD]
theorem Dig.drop {l : List Int} (h : Dig l) (i : Nat) : Dig (l.drop i) := by intro j; rw [rd_drop]; exact h _
/-- A place's worth. -/
def B (n : Nat) : Int := 65536 ^ n
end Go.Proofs.Ytnofihkmgedbfaa.P
namespace Go.Proofs.Ytnofihkmgedbfaa.P
open Go.RowKit Go.Proofs.YtnofihkmgedbfaaW.PrintWords Go.Proofs.YtnofihkmgedbfaaW.PrintLast Go.Proofs.YtnofihkmgedbfaaW.PrintMore
theorem awake_at : celluloidlaw18_awake.f 200 = some true := by kernel_rfl
theorem awake_eq (k : Nat) (hk : 200 ≤ k) : celluloidlaw18_awake.f k = some true := at_rounds celluloidlaw18_awake.mono hk awake_at
end Go.Proofs.Ytnofihkmgedbfaa.P
namespace Go.Proofs.Ytnofihkmgedbfaa.P
open Go.RowKit Go.Proofs.YtnofihkmgedbfaaW.PrintWords Go.Proofs.YtnofihkmgedbfaaW.PrintLast Go.Proofs.YtnofihkmgedbfaaW.PrintMore
/-- The root of a natural number. -/
def isq : Nat → Nat
  | 0 => 0
  | n + 1 => if (isq n + 1) * (isq n + 1) ≤ n + 1 then isq n + 1 else isq n
theorem isq_spec : ∀ n, isq n * isq n ≤ n ∧ n < (isq n + 1) * (isq n + 1) := by
  intro n
  induction n with
  | zero => simp [isq]
  | succ n ih =>
    simp only [isq]
    split
    · rename_i h
      refine ⟨h, ?_⟩
      have e : (isq n + 1 + 1) * (isq n + 1 + 1) = (isq n + 1) * (isq n + 1) + 2 * (isq n + 1) + 1 := by
        rw [Nat.add_mul, Nat.mul_add]; omega
      rw [e]; omega
    · rename_i h
      exact ⟨by omega, by omega⟩
theorem sq_lt {a b : Nat} (h : a * a < b * b) : a < b := by
  rcases Nat.lt_or_ge a b with h1 | h1
  · exact h1
  · have := Nat.mul_le_mul h1 h1; omega
theorem isq_unique {n r : Nat} (h1 : r * r ≤ n) (h2 : n < (r + 1) * (r + 1)) : isq n = r := by
  obtain ⟨a, b⟩ := isq_spec n
  have := sq_lt (Nat.lt_of_le_of_lt a h2)
  have := sq_lt (Nat.lt_of_le_of_lt h1 b)
  omega
theorem isq_le {n r : Nat} (h : n < (r + 1) * (r + 1)) : isq n ≤ r := by
  have := sq_lt (Nat.lt_of_le_of_lt (isq_spec n).1 h); omega
theorem le_isq {n r : Nat} (h : r * r ≤ n) : r ≤ isq n := by
  have := sq_lt (Nat.lt_of_le_of_lt h (isq_spec n).2); omega
/-- One step: not below the root. -/
theorem step_ge {n r : Nat} (hr : 0 < r) : isq n ≤ (r + n / r) / 2 := by
  obtain ⟨a, _⟩ := isq_spec n
  generalize isq n = s at *
  by_cases h : r ≤ 2 * s
  · obtain ⟨t, ht⟩ : ∃ t, 2 * s = r + t := ⟨2 * s - r, by omega⟩
    have : t ≤ n / r := by
      rw [Nat.le_div_iff_mul_le hr]
      refine Nat.le_trans ?_ a
      -- t * r ≤ s * s
      have h4 : 4 * (t * r) ≤ 4 * (s * s) := by
        have e : 4 * (s * s) = (r + t) * (r + t) := by
          rw [← ht, Nat.mul_mul_mul_comm]
        rw [e, Nat.add_mul, Nat.mul_add, Nat.mul_add, Nat.mul_comm r t]
        have : 2 * (t * r) ≤ r * r + t * t := by
          rcases Nat.le_total t r with hle | hle
          · obtain ⟨d, rfl⟩ : ∃ d, r = t + d := ⟨r - t, by omega⟩
            have := Nat.mul_comm d t; simp only [Nat.mul_add, Nat.add_mul]; omega
          · obtain ⟨d, rfl⟩ : ∃ d, t = r + d := ⟨t - r, by omega⟩
            have := Nat.mul_comm d r; simp only [Nat.mul_add, Nat.add_mul]; omega
        omega
      omega
    omega
  · generalize n / r = q; omega
/-- One step: below where it was, above the root. -/
theorem step_lt {n r : Nat} (h : isq n < r) : (r + n / r) / 2 < r := by
  have b := (isq_spec n).2
  have h1 : n < r * r := Nat.lt_of_lt_of_le b (Nat.mul_le_mul h h)
  have : n / r < r := by rw [Nat.div_lt_iff_lt_mul (by omega)]; exact h1
  omega
theorem tdiv_nat (a b : Nat) : Int.tdiv (a : Int) (b : Int) = ((a / b : Nat) : Int) := by
  rw [Int.tdiv_eq_ediv_of_nonneg (by omega), Int.natCast_ediv]
theorem root_l0 {n : Nat} (hn : 0 < n) (hn1 : n < 9223372036854775808) : ∀ (d r k : Nat), isq n ≤ r → r ≤ isq n + d → r ≤ 4294967296 → d < k → fix_Root.l0 k n r = some (isq n : Int) := by
  have hs : 1 ≤ isq n := le_isq (by omega)
  intro d
  induction d with
  | zero =>
    intro r k h1 h2 h3 hk
    obtain ⟨k, rfl⟩ : ∃ m, k = m + 1 := ⟨k - 1, by omega⟩
    have e : r = isq n := by omega
    have hst := step_ge (n := n) (r := r) (by omega)
    have hdb : n / r ≤ n := Nat.div_le_self _ _
    have hq : n / r ≤ r + 2 := by
      have b := (isq_spec n).2
      rw [← e] at b
      have : n / r < r + 3 := by
        rw [Nat.div_lt_iff_lt_mul (by omega)]
        rw [Nat.add_mul, Nat.mul_add] at b
        rw [Nat.add_mul]; omega
      omega
    simp only [fix_Root.l0]
    rw [if_neg (by omega), tdiv_nat]
    generalize n / r = q at *
    rw [w64_id (n := (q : Int)) (by omega) (by omega), w64_id (n := (r : Int) + q) (by omega) (by omega), Int.tdiv_eq_ediv_of_nonneg (by omega), w64_id (by omega) (by omega), if_pos (by omega), e]
  | succ d ih =>
    intro r k h1 h2 h3 hk
    by_cases he : r ≤ isq n + d
    · exact ih r k h1 he h3 (by omega)
    · obtain ⟨k, rfl⟩ : ∃ m, k = m + 1 := ⟨k - 1, by omega⟩
      have hst := step_ge (n := n) (r := r) (by omega)
      have hlt := step_lt (n := n) (r := r) (by omega)
      have hdb : n / r < r := by
        rw [Nat.div_lt_iff_lt_mul (by omega)]
        exact Nat.lt_of_lt_of_le (isq_spec n).2 (Nat.mul_le_mul (by omega) (by omega))
      simp only [fix_Root.l0]
      rw [if_neg (by omega), tdiv_nat]
      generalize n / r = q at *
      have e2 : ((r : Int) + q) / 2 = (((r + q) / 2 : Nat) : Int) := by omega
      rw [w64_id (n := (q : Int)) (by omega) (by omega), w64_id (n := (r : Int) + q) (by omega) (by omega), Int.tdiv_eq_ediv_of_nonneg (by omega), e2, w64_id (by omega) (by omega), if_neg (by omega)]
      exact ih ((r + q) / 2) k hst (by omega) (by omega) (by omega)
theorem pow32 (s : Nat) (hs : s ≤ 32) : 2 ^ s ≤ 4294967296 := Nat.le_trans (Nat.pow_le_pow_right (by omega) hs) (by decide)
theorem shl_i64_one (s : Nat) (hs : s ≤ 32) : shl .i64 1 (s : Int) = ((2 ^ s : Nat) : Int) := by
  unfold shl
  rw [IntKind.wrap_i64, show min ((s : Int).toNat) (IntKind.i64.bits) = s by simp [IntKind.bits]; omega]
  have h := pow32 s hs
  rw [Int.one_mul, show ((2 : Int) ^ s) = ((2 ^ s : Nat) : Int) by simp]
  generalize 2 ^ s = z at *
  omega
theorem bits_le (m : Nat) (h0 : m ≠ 0) (h1 : m < 9223372036854775808) : m < 2 ^ Lib.bitLen m ∧ Lib.bitLen m ≤ 63 := by
  obtain ⟨b1, b2, b3, b4⟩ := bitLen_bounds m h0 (by omega)
  refine ⟨b2, ?_⟩
  rcases Nat.lt_or_ge 63 (Lib.bitLen m) with h | h
  · have h2 : 2 ^ 63 ≤ 2 ^ (Lib.bitLen m - 1) := Nat.pow_le_pow_right (by omega) (by omega)
    have h3 := Nat.le_trans h2 b1
    have h4 : (2 : Nat) ^ 63 = 9223372036854775808 := by decide
    rw [h4] at h3
    omega
  · exact h
theorem half_up (L : Nat) (h : L ≤ 63) : wrap64 (Int.tdiv (wrap64 ((L : Int) + 1)) 2) = (((L + 1) / 2 : Nat) : Int) := by
  rw [w64_id (n := (L : Int) + 1) (by omega) (by omega), Int.tdiv_eq_ediv_of_nonneg (by omega), w64_id (by omega) (by omega)]; omega
theorem start_ge {m L : Nat} (h : m < 2 ^ L) : isq m ≤ 2 ^ ((L + 1) / 2) := by
  apply isq_le
  have h1 : 2 ^ L ≤ 2 ^ ((L + 1) / 2) * 2 ^ ((L + 1) / 2) := by
    rw [← Nat.pow_add]; exact Nat.pow_le_pow_right (by omega) (by omega)
  have h2 : 2 ^ ((L + 1) / 2) * 2 ^ ((L + 1) / 2) ≤ (2 ^ ((L + 1) / 2) + 1) * (2 ^ ((L + 1) / 2) + 1) := Nat.mul_le_mul (Nat.le_succ _) (Nat.le_succ _)
  exact Nat.lt_of_lt_of_le h (Nat.le_trans h1 h2)
theorem len_eq (m : Nat) (h : m < 18446744073709551616) : bits_Len.f (m : Int) = some (Lib.bitLen m : Int) := by
  unfold bits_Len.f
  rw [if_pos (by omega), Int.toNat_natCast]
theorem root_pos (m : Nat) (h0 : 0 < m) (h1 : m < 9223372036854775808) (k : Nat) (hk : 4294967296 < k) : fix_Root.f k (m : Int) = some (isq m : Int) := by
  unfold fix_Root.f
  rw [if_neg (by omega), u64_id (by omega) (by omega), len_eq m (by omega), Option.bind_some]
  obtain ⟨b2, b5⟩ := bits_le m (by omega) h1
  obtain ⟨L, hL⟩ : ∃ L, L = Lib.bitLen m := ⟨_, rfl⟩
  rw [← hL] at b2 b5 ⊢
  clear hL
  rw [half_up L b5, if_pos (by omega), shl_i64_one _ (by omega)]
  have hp := pow32 ((L + 1) / 2) (by omega)
  have hle := start_ge b2
  obtain ⟨R, hR⟩ : ∃ R, R = 2 ^ ((L + 1) / 2) := ⟨_, rfl⟩
  rw [← hR] at hp hle ⊢
  exact root_l0 h0 h1 R R k hle (by omega) hp (Nat.lt_of_le_of_lt hp hk)
theorem root_eq (n : Int) (hn : n ≤ 9223372036854775807) (k : Nat) (hk : 4294967296 < k) : fix_Root.f k n = some (isq n.toNat : Int) := by
  by_cases h : n < 1
  · unfold fix_Root.f
    rw [if_pos h, show n.toNat = 0 by omega]; rfl
  · obtain ⟨m, rfl⟩ := Int.eq_ofNat_of_zero_le (show 0 ≤ n by omega)
    rw [Int.toNat_natCast]
    exact root_pos m (by omega) (by omega) k hk
end Go.Proofs.Ytnofihkmgedbfaa.P
namespace Go.Proofs.Ytnofihkmgedbfaa.P
open Go.RowKit Go.Proofs.YtnofihkmgedbfaaW.PrintWords Go.Proofs.YtnofihkmgedbfaaW.PrintLast Go.Proofs.YtnofihkmgedbfaaW.PrintMore
theorem refroot_l0 (n : Int) (hn : n ≤ 9223372036854775807) : ∀ (t : Nat), t ≤ 32 → ∀ (r k : Nat), (0 ≤ n → (r : Int) * r ≤ n) → (n < 0 → r = 0) → n < ((r : Int) + (2 ^ t : Nat)) * (r + (2 ^ t : Nat)) → r ≤ 3037000499 → t + 1 ≤ k →
    celluloidref01_Root.l0 k n (r : Int) (((2 ^ t : Nat) : Int) / 2) = some (isq n.toNat : Int) := by
  intro t
  induction t with
  | zero =>
    intro _ r k h1 h2 h3 h4 hk
    obtain ⟨k, rfl⟩ : ∃ m, k = m + 1 := ⟨k - 1, by omega⟩
    simp only [celluloidref01_Root.l0]
    rw [if_neg (by simp)]
    by_cases hneg : n < 0
    · rw [h2 hneg, show n.toNat = 0 by omega]; rfl
    · obtain ⟨m, rfl⟩ := Int.eq_ofNat_of_zero_le (show 0 ≤ n by omega)
      have g1 := h1 (by omega)
      rw [Int.toNat_natCast, isq_unique (n := m) (r := r) (by rw [← Int.natCast_mul] at g1; omega)]
      rw [Nat.pow_zero] at h3
      have : ((r : Int) + ((1 : Nat) : Int)) * (r + ((1 : Nat) : Int)) = (((r + 1) * (r + 1) : Nat) : Int) := by simp
      rw [this] at h3
      omega
  | succ t ih =>
    intro ht r k h1 h2 h3 h4 hk
    obtain ⟨k, rfl⟩ : ∃ m, k = m + 1 := ⟨k - 1, by omega⟩
    have hp : 2 ^ t ≤ 2147483648 := by
      have : 2 ^ t ≤ 2 ^ 31 := Nat.pow_le_pow_right (by omega) (by omega)
      exact this
    have hp0 := Nat.two_pow_pos t
    have e : ((2 ^ (t + 1) : Nat) : Int) / 2 = ((2 ^ t : Nat) : Int) := by rw [Nat.pow_succ]; omega
    have e2 : ((2 ^ (t + 1) : Nat) : Int) = 2 * ((2 ^ t : Nat) : Int) := by rw [Nat.pow_succ]; omega
    rw [e]
    rw [e2] at h3
    simp only [celluloidref01_Root.l0]
    have ih' := ih (by omega)
    obtain ⟨p, hpp⟩ : ∃ p, p = 2 ^ t := ⟨_, rfl⟩
    rw [← hpp] at hp hp0 h3 ih' ⊢
    rw [if_pos (by omega), w64_id (n := (r : Int) + p) (by omega) (by omega), Int.tdiv_eq_ediv_of_nonneg (by omega), w64_id (n := (p : Int) / 2) (by omega) (by omega)]
    have hsq : 3037000500 ≤ (r : Int) + p → n < ((r : Int) + p) * (r + p) := by
      intro hge
      have : (3037000500 : Int) * 3037000500 ≤ ((r : Int) + p) * (r + p) := Int.mul_le_mul hge hge (by omega) (by omega)
      omega
    by_cases g1 : (r : Int) + p ≤ 3037000499
    · rw [if_pos g1]
      have hb : ((r : Int) + p) * (r + p) ≤ 3037000499 * 3037000499 := Int.mul_le_mul g1 g1 (by omega) (by omega)
      have hb0 : 0 ≤ ((r : Int) + p) * (r + p) := Int.mul_nonneg (by omega) (by omega)
      rw [w64_id (n := ((r : Int) + p) * (r + p)) (by omega) (by omega)]
      by_cases g2 : ((r : Int) + p) * (r + p) ≤ n
      · rw [if_pos g2]
        have hc : ((r + p : Nat) : Int) = (r : Int) + p := by omega
        have hc2 : (r : Int) + p + p = r + 2 * p := by omega
        have := ih' (r + p) k (fun _ => by rw [hc]; exact g2) (fun h => by omega) (by rw [hc, hc2]; exact h3) (by omega) (by omega)
        rw [hc] at this
        exact this
      · rw [if_neg g2]
        exact ih' r k h1 h2 (by omega) h4 (by omega)
    · rw [if_neg g1]
      exact ih' r k h1 h2 (hsq (by omega)) h4 (by omega)
theorem ref_root (n : Int) (hn : n ≤ 9223372036854775807) (k : Nat) (hk : 40 ≤ k) : celluloidref01_Root.f k n = some (isq n.toNat : Int) := by
  unfold celluloidref01_Root.f
  have := refroot_l0 n hn 32 (Nat.le_refl _) 0 k (fun h => by simpa using h) (fun _ => rfl) (by
    have : (((0 : Nat) : Int) + ((2 ^ 32 : Nat) : Int)) * (((0 : Nat) : Int) + ((2 ^ 32 : Nat) : Int)) = 18446744073709551616 := by decide
    rw [this]; omega) (by omega) (by omega)
  exact this
end Go.Proofs.Ytnofihkmgedbfaa.P
namespace Go.Proofs.Ytnofihkmgedbfaa.P
open Go.RowKit Go.Proofs.YtnofihkmgedbfaaW.PrintWords Go.Proofs.YtnofihkmgedbfaaW.PrintLast Go.Proofs.YtnofihkmgedbfaaW.PrintMore
theorem rd_cons_drop (l : List Int) (i : Nat) (h : i < l.length) : l.drop i = rd l (i : Int) :: l.drop (i + 1) := by
  rw [List.drop_eq_getElem_cons h]
  simp [rd, List.getD_eq_getElem?_getD, h]
theorem within_l0 (f t : Int) (l : List Int) (hl : l.length ≤ 1000) : ∀ (d i k : Nat), d + i = l.length → d < k → field_within.l0 k f t l (l.length : Int) (i : Int) = some (decide (∀ x ∈ l.drop i, f ≤ x ∧ x ≤ t)) := by
  intro d
  induction d with
  | zero =>
    intro i k h hk
    obtain ⟨k, rfl⟩ : ∃ m, k = m + 1 := ⟨k - 1, by omega⟩
    simp only [field_within.l0]
    rw [if_neg (by omega), List.drop_of_length_le (by omega)]; simp
  | succ d ih =>
    intro i k h hk
    obtain ⟨k, rfl⟩ : ∃ m, k = m + 1 := ⟨k - 1, by omega⟩
    simp only [field_within.l0]
    rw [if_pos (by omega), if_pos (by omega), if_pos (by omega), w64_id (by omega) (by omega), show (i : Int) + 1 = ((i + 1 : Nat) : Int) by omega, rd_cons_drop l i (by omega)]
    by_cases h1 : rd l (i : Int) < f
    · rw [if_pos h1, decide_eq_false]; intro hc; have := hc _ (List.mem_cons_self ..); omega
    · rw [if_neg h1]
      by_cases h2 : rd l (i : Int) > t
      · rw [if_pos h2, decide_eq_false]; intro hc; have := hc _ (List.mem_cons_self ..); omega
      · rw [if_neg h2, ih (i + 1) k (by omega) (by omega)]
        congr 1; rw [decide_eq_decide]
        constructor
        · intro hh x hx
          rcases List.mem_cons.mp hx with rfl | hx
          · omega
          · exact hh x hx
        · intro hh x hx; exact hh x (List.mem_cons_of_mem _ hx)
theorem within_eq (f t : Int) (l : List Int) (hl : l.length ≤ 1000) (k : Nat) (hk : 1001 ≤ k) : field_within.f k f t l = some (decide (∀ x ∈ l, f ≤ x ∧ x ≤ t)) := by
  unfold field_within.f
  exact within_l0 f t l hl l.length 0 k (by omega) (by omega)
/-- A matrix that is right. -/
def Mat (a b c d x y : Int) : Prop := (-4194304 ≤ a ∧ a ≤ 4194304) ∧ (-4194304 ≤ b ∧ b ≤ 4194304) ∧ (-4194304 ≤ c ∧ c ≤ 4194304) ∧ (-4194304 ≤ d ∧ d ≤ 4194304) ∧ (-1048576 ≤ x ∧ x ≤ 1048576) ∧ (-1048576 ≤ y ∧ y ≤ 1048576)
instance (a b c d x y : Int) : Decidable (Mat a b c d x y) := by unfold Mat; infer_instance
theorem matrix_eq (a b c d x y : Int) (k : Nat) (hk : 1001 ≤ k) : field_RightMatrix.f k a b c d x y = some (decide (Mat a b c d x y)) := by
  unfold field_RightMatrix.f
  rw [within_eq _ _ _ (by simp) k hk, within_eq _ _ _ (by simp) k hk]
  simp only [Option.bind_some, decide_eq_true_eq]
  by_cases h1 : ∀ v ∈ [a, b, c, d], -4194304 ≤ v ∧ v ≤ 4194304
  · rw [if_pos h1]; congr 1; rw [decide_eq_decide]; unfold Mat; simp at h1 ⊢; omega
  · rw [if_neg h1]; congr 1; symm; apply decide_eq_false; unfold Mat; simp at h1; intro h; exact absurd h.2.2.2.1 (by have := h1 h.1.1 h.1.2 h.2.1.1 h.2.1.2 h.2.2.1.1 h.2.2.1.2; omega)
theorem in_eq (n m : Int) (h : 0 ≤ m ∧ m ≤ 1073741824) : celluloidref07_in.f n m = some (decide (-m ≤ n ∧ n ≤ m)) := by
  unfold celluloidref07_in.f
  rw [w64_id (by omega) (by omega)]
  by_cases h1 : n ≥ -m
  · rw [if_pos h1]; congr 1; rw [decide_eq_decide]; omega
  · rw [if_neg h1]; congr 1; symm; apply decide_eq_false; omega
theorem matrix07_eq (a b c d x y : Int) : celluloidref07_Matrix.f a b c d x y = some (decide (Mat a b c d x y)) := by
  unfold celluloidref07_Matrix.f
  rw [in_eq _ _ (by omega), in_eq _ _ (by omega), in_eq _ _ (by omega), in_eq _ _ (by omega), in_eq _ _ (by omega), in_eq _ _ (by omega)]
  simp only [Option.bind_some, decide_eq_true_eq]
  unfold Mat
  by_cases h1 : -4194304 ≤ a ∧ a ≤ 4194304 <;> by_cases h2 : -4194304 ≤ b ∧ b ≤ 4194304 <;> by_cases h3 : -4194304 ≤ c ∧ c ≤ 4194304 <;> by_cases h4 : -4194304 ≤ d ∧ d ≤ 4194304 <;> by_cases h5 : -1048576 ≤ x ∧ x ≤ 1048576 <;> simp [h1, h2, h3, h4, h5]
theorem mb {x y B C : Int} (h1 : -B ≤ x) (h2 : x ≤ B) (h3 : -C ≤ y) (h4 : y ≤ C) : -(B * C) ≤ x * y ∧ x * y ≤ B * C := by
  have hB : 0 ≤ B := by omega
  have hx : x.natAbs ≤ B.toNat := by omega
  have hy : y.natAbs ≤ C.toNat := by omega
  have := mul_bound hx hy
  have e : ((B.toNat * C.toNat : Nat) : Int) = B * C := by
    rw [Int.natCast_mul, Int.toNat_of_nonneg (by omega), Int.toNat_of_nonneg (by omega)]
  omega
/-- The determinant. -/
def det (a b c d : Int) : Int := a * d - b * c
theorem det_bd {a b c d x y : Int} (h : Mat a b c d x y) : -35184372088832 ≤ det a b c d ∧ det a b c d ≤ 35184372088832 ∧ wrap64 (wrap64 (a * d) - wrap64 (b * c)) = det a b c d ∧ wrap64 (a * d) = a * d ∧ wrap64 (b * c) = b * c := by
  obtain ⟨ha, hb, hc, hd, hx, hy⟩ := h
  unfold det
  have m1 := mb ha.1 ha.2 hd.1 hd.2
  have m2 := mb hb.1 hb.2 hc.1 hc.2
  refine ⟨by omega, by omega, ?_, w64_id (by omega) (by omega), w64_id (by omega) (by omega)⟩
  rw [w64_id (n := a * d) (by omega) (by omega), w64_id (n := b * c) (by omega) (by omega), w64_id (by omega) (by omega)]
theorem scale_eq (a b c d x y : Int) (k : Nat) (hk : 4294967296 < k) : affine_Scale.f k a b c d x y = some (if Mat a b c d x y then ((isq (det a b c d).natAbs : Nat) : Int) else 0) := by
  unfold affine_Scale.f
  rw [matrix_eq _ _ _ _ _ _ _ (by omega), Option.bind_some]
  by_cases h : Mat a b c d x y
  · have hb := det_bd h
    rw [decide_eq_true h, if_pos rfl, if_pos h, hb.2.2.1, w64_id (n := -det a b c d) (by omega) (by omega)]
    have e : mx (det a b c d) (-det a b c d) = ((det a b c d).natAbs : Int) := by unfold mx; split <;> omega
    rw [e, root_eq _ (by omega) k hk, Option.bind_some]; rfl
  · rw [decide_eq_false h, if_neg (by simp), if_neg h]
end Go.Proofs.Ytnofihkmgedbfaa.P
namespace Go.Proofs.Ytnofihkmgedbfaa.Pure
open Go.RowKit Go.Proofs.Ytnofihkmgedbfaa.P Go.Proofs.YtnofihkmgedbfaaW.PrintWords Go.Proofs.YtnofihkmgedbfaaW.PrintLast Go.Proofs.YtnofihkmgedbfaaW.PrintMore
theorem scaleR_eq {a b c d x y : Int} (h : Mat a b c d x y) (k : Nat) (hk : 40 ≤ k) : celluloidref14_Scale.f k a b c d x y = some ((isq (det a b c d).natAbs : Nat) : Int) := by
  have hb := det_bd h
  unfold celluloidref14_Scale.f
  rw [hb.2.2.1]
  by_cases hs : det a b c d < 0
  · rw [if_pos hs, w64_id (by omega) (by omega), ref_root _ (by omega) k hk, show (-det a b c d).toNat = (det a b c d).natAbs by omega]; rfl
  · rw [if_neg hs, ref_root _ (by omega) k hk, show (det a b c d).toNat = (det a b c d).natAbs by omega]; rfl
theorem isq_small {n : Nat} (h : n ≤ 35184372088832) : isq n ≤ 8388607 := isq_le (by omega)
theorem rd2_pos {a : Int} (h0 : 0 ≤ a) (h1 : a ≤ 17592186044416) : (rd2 a 327680).1 = (2 * a + 327680) / 655360 := by
  have e : rnd a 327680 = (2 * a + 327680) / 655360 := by unfold rnd fl; rw [if_pos (by omega)]; rfl
  unfold rd2
  rw [if_neg (by omega), num_yes (by unfold I64; omega), e]
/-- The width of a line that is right. -/
def widS (t s : Int) : Int := mn (mx ((32 * (t * s) + 327680) / 655360) 64) 1048576
theorem StrokeWidths : celluloidlaw18_StrokeWidths.Pure := by
  intro t m _ _
  obtain ⟨k, hk⟩ : ∃ k : Nat, 4294967296 < k := ⟨_, Nat.lt_succ_self _⟩
  refine ⟨k + 1, ?_⟩
  unfold celluloidlaw18_StrokeWidths.f
  generalize m.f0 = a
  generalize m.f1 = b
  generalize m.f2 = c
  generalize m.f3 = d
  generalize m.f4 = x
  generalize m.f5 = y
  have n1 : stroke_Width.j0 (k + 1) t true a b c d x y = some 0 := by rw [stroke_Width.j0, if_pos rfl]
  have n2 : celluloidref18_Width.j0 (k + 1) t true a b c d x y = some 0 := by rw [celluloidref18_Width.j0, if_pos rfl]
  have key : ∃ r, stroke_Width.f (k + 1) t a b c d x y = some r ∧ celluloidref18_Width.f (k + 1) t a b c d x y = some r := by
    unfold stroke_Width.f celluloidref18_Width.f
    by_cases h1 : t < 0
    · rw [if_pos h1, if_pos h1]; exact ⟨_, n1, n2⟩
    · rw [if_neg h1, if_neg h1]
      by_cases h2 : t ≥ 65536
      · rw [if_pos h2, if_pos (by omega)]; exact ⟨_, n1, n2⟩
      · rw [if_neg h2, if_neg (by omega), matrix_eq _ _ _ _ _ _ _ (by omega), Option.bind_some, matrix07_eq, Option.bind_some]
        by_cases h : Mat a b c d x y
        · rw [decide_eq_true h, stroke_Width.j0, if_neg (by simp), celluloidref18_Width.j0, if_neg (by simp), scale_eq _ _ _ _ _ _ k hk, if_pos h, Option.bind_some, scaleR_eq h k (by omega), Option.bind_some]
          have hb := det_bd h
          have hs := isq_small (n := (det a b c d).natAbs) (by omega)
          generalize isq (det a b c d).natAbs = s at *
          have p0 : 0 ≤ t * (s : Int) := Int.mul_nonneg (by omega) (by omega)
          have p1 : t * (s : Int) ≤ 65535 * 8388607 := Int.mul_le_mul (by omega) (by omega) (by omega) (by omega)
          have e1 : 32 * t * (s : Int) = 32 * (t * (s : Int)) := Int.mul_assoc _ _ _
          rw [w64_id (n := t * (s : Int)) (by omega) (by omega), w64_id (n := t * (s : Int) * 16) (by omega) (by omega), w64_id (n := 32 * t) (by omega) (by omega), e1, w64_id (n := 32 * (t * (s : Int))) (by omega) (by omega), w64_id (n := 32 * (t * (s : Int)) + 327680) (by omega) (by omega),
            Int.tdiv_eq_ediv_of_nonneg (by omega), w64_id (n := (32 * (t * (s : Int)) + 327680) / 655360) (by omega) (by omega), round_eq (by unfold I64; omega) (by unfold I64; omega) k (by omega), Option.bind_some, rd2_pos (by omega) (by omega), show 2 * (t * (s : Int) * 16) = 32 * (t * (s : Int)) by omega]
          refine ⟨widS t s, rfl, ?_⟩
          unfold widS
          generalize (32 * (t * (s : Int)) + 327680) / 655360 = q
          by_cases g1 : q < 64
          · rw [if_pos g1]; congr 1; unfold mn mx; omega
          · rw [if_neg g1]
            by_cases g2 : q > 1048576
            · rw [if_pos g2]; congr 1; unfold mn mx; omega
            · rw [if_neg g2]; congr 1; unfold mn mx; omega
        · rw [decide_eq_false h]; exact ⟨_, n1, n2⟩
  obtain ⟨r, e1, e2⟩ := key
  rw [e1, e2, Option.bind_some, Option.bind_some, if_pos rfl, awake_eq (k + 1) (by omega)]
  rfl
end Go.Proofs.Ytnofihkmgedbfaa.Pure
