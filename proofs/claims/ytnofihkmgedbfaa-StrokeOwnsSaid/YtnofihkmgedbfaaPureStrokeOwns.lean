/- The line of each sample of a frame is what the document says, or the frame is refused. (prune.py) -/
import Derived.Test.YtnofihkmgedbfaaPx0
import Derived.Test.YtnofihkmgedbfaaPx1
import Derived.Test.YtnofihkmgedbfaaPx2
import Derived.Test.YtnofihkmgedbfaaPx3
import Derived.Test.YtnofihkmgedbfaaPx4
import Derived.Test.YtnofihkmgedbfaaPx7
import Derived.Test.YtnofihkmgedbfaaPx8
import Derived.KernelRfl
import Derived.Laws.BitsAllLaws
import Derived.Laws.MathBits
import Derived.Lib.BitFns
import Derived.Test.YtnofihkmgedbfaaSayStrokeOwns
namespace Go.Proofs.Ytnofihkmgedbfaa.P
open Go.RowKit Go.Proofs.YtnofihkmgedbfaaW.PrintWords Go.Proofs.YtnofihkmgedbfaaW.PrintLast Go.Proofs.YtnofihkmgedbfaaW.PrintMore
theorem w64_id {n : Int} (h0 : -9223372036854775808 ≤ n) (h1 : n < 9223372036854775808) : wrap64 n = n := by unfold wrap64; omega
structure Digit (u v v1 v0 u1 Q : Int) : Prop where
  hv : v = v1 * 4294967296 + v0
  v0a : 0 ≤ v0
  v0b : v0 < 4294967296
  v1a : 2147483648 ≤ v1
  v1b : v1 < 4294967296
  ua : 0 ≤ u
  ub : u < v
  u1a : 0 ≤ u1
  u1b : u1 < 4294967296
  qa : Q * v ≤ u * 4294967296 + u1
  qb : u * 4294967296 + u1 < Q * v + v
theorem lt_of_mul {a b v : Int} (hv : 0 < v) (h : a * v < b * v) : a < b := by
  rcases Int.lt_or_le a b with h1 | h1
  · exact h1
  · have := Int.mul_le_mul_of_nonneg_right h1 (Int.le_of_lt hv); omega
namespace Digit
variable {u v v1 v0 u1 Q : Int}
theorem vpos (d : Digit u v v1 v0 u1 Q) : 0 < v := by have := d.hv; have := d.v1a; have := d.v0a; omega
theorem q0 (d : Digit u v v1 v0 u1 Q) : 0 ≤ Q := by
  have h := d.qb; have := d.ua; have := d.u1a; have hv := d.vpos
  have : -1 < Q := lt_of_mul hv (by have : (Q + 1) * v = Q * v + v := by rw [Int.add_mul, Int.one_mul]
                                    omega)
  omega
theorem qB (d : Digit u v v1 v0 u1 Q) : Q < 4294967296 := by
  have h := d.qa; have := d.ub; have := d.u1b; have hv := d.vpos
  exact lt_of_mul hv (by omega)
theorem below (d : Digit u v v1 v0 u1 Q) {q : Int} (h : u * 4294967296 + u1 < q * v) : Q < q := lt_of_mul d.vpos (by have := d.qa; omega)
theorem above (d : Digit u v v1 v0 u1 Q) {q : Int} (h : q * v ≤ u * 4294967296 + u1) : q ≤ Q := by
  have : q < Q + 1 := lt_of_mul d.vpos (by have := d.qb; rw [Int.add_mul, Int.one_mul]; omega)
  omega
theorem prod (d : Digit u v v1 v0 u1 Q) {q r : Int} (h : q * v1 + r = u) : q * v = (u - r) * 4294967296 + q * v0 := by
  rw [d.hv, Int.mul_add, ← Int.mul_assoc, show q * v1 = u - r by omega]
/-- The test says yes: the guess is too great. -/
theorem yes (d : Digit u v v1 v0 u1 Q) {q r : Int} (h : q * v1 + r = u) (ht : 4294967296 ≤ q ∨ 4294967296 * r + u1 < q * v0) : Q ≤ q - 1 := by
  rcases ht with ht | ht
  · have := d.qB; omega
  · have := d.below (q := q) (by rw [d.prod h]; omega); omega
/-- It says no: the guess is right. -/
theorem no (d : Digit u v v1 v0 u1 Q) {q r : Int} (h : q * v1 + r = u) (hq : Q ≤ q) (ht : q * v0 ≤ 4294967296 * r + u1) : q = Q := by
  have := d.above (q := q) (by rw [d.prod h]; omega); omega
/-- What is left over is great: the guess is right. -/
theorem out (d : Digit u v v1 v0 u1 Q) {q r : Int} (h : q * v1 + r = u) (hq : Q ≤ q) (hB : q ≤ 4294967296) (hr : 4294967296 ≤ r) : q = Q := by
  refine d.no h hq ?_
  have h0 := d.q0
  have h1 : q * v0 ≤ 4294967296 * v0 := Int.mul_le_mul_of_nonneg_right hB d.v0a
  have := d.v0b; have := d.u1a; omega
end Digit
/-- A digit, out of the division itself. -/
theorem Digit.of {u v v1 v0 u1 : Int} (hv : v = v1 * 4294967296 + v0) (v0a : 0 ≤ v0) (v0b : v0 < 4294967296) (v1a : 2147483648 ≤ v1) (v1b : v1 < 4294967296) (ua : 0 ≤ u) (ub : u < v) (u1a : 0 ≤ u1) (u1b : u1 < 4294967296) :
    Digit u v v1 v0 u1 ((u * 4294967296 + u1) / v) := by
  have h := Int.mul_ediv_add_emod (u * 4294967296 + u1) v
  have hm := Int.emod_nonneg (u * 4294967296 + u1) (show v ≠ 0 by omega)
  have hl := Int.emod_lt_of_pos (u * 4294967296 + u1) (show 0 < v by omega)
  rw [Int.mul_comm] at h
  exact ⟨hv, v0a, v0b, v1a, v1b, ua, ub, u1a, u1b, by omega, by omega⟩
end Go.Proofs.Ytnofihkmgedbfaa.P
namespace Go.Proofs.Ytnofihkmgedbfaa.P
open Go.RowKit Go.Proofs.YtnofihkmgedbfaaW.PrintWords Go.Proofs.YtnofihkmgedbfaaW.PrintLast Go.Proofs.YtnofihkmgedbfaaW.PrintMore
/-- Is it a number of 64 bits? -/
def I64 (x : Int) : Prop := -9223372036854775808 ≤ x ∧ x ≤ 9223372036854775807
instance (x : Int) : Decidable (I64 x) := by unfold I64; infer_instance
theorem mul_bound {a b : Int} {L M : Nat} (ha : a.natAbs ≤ L) (hb : b.natAbs ≤ M) : (a * b).natAbs ≤ L * M := by
  rw [Int.natAbs_mul]; exact Nat.mul_le_mul ha hb
theorem prod_bound {a b : Int} (ha : I64 a) (hb : I64 b) : (a * b).natAbs ≤ 85070591730234615865843651857942052864 := by
  have := mul_bound (a := a) (b := b) (L := 9223372036854775808) (M := 9223372036854775808) (by unfold I64 at ha; omega) (by unfold I64 at hb; omega)
  exact this
theorem times_eq {a b : Int} (ha : I64 a) (hb : I64 b) : fix_times.f a b = some (a * b / 18446744073709551616, a * b % 18446744073709551616) := by
  have hP := prod_bound ha hb
  unfold I64 at ha hb
  have key : ∀ (A B : Int), (A = a ∨ A = a + 18446744073709551616) → (B = b ∨ B = b + 18446744073709551616) → 0 ≤ A → A < 18446744073709551616 → 0 ≤ B → B < 18446744073709551616 →
      A * B / 18446744073709551616 = a * b / 18446744073709551616 + (if A = a then 0 else b) + (if B = b then 0 else a) + (if A = a ∨ B = b then 0 else 18446744073709551616) ∧ A * B % 18446744073709551616 = a * b % 18446744073709551616 := by
    intro A B h1 h2 _ _ _ _
    rcases h1 with rfl | rfl <;> rcases h2 with rfl | rfl
    · simp
    · rw [Int.mul_add, if_pos rfl, if_neg (by omega), if_pos (by simp)]
      generalize A * b = z at *
      omega
    · rw [Int.add_mul, if_neg (by omega), if_pos rfl, if_pos (by simp)]
      generalize a * B = z at *
      omega
    · rw [Int.add_mul, Int.mul_add, Int.mul_add, if_neg (by omega), if_neg (by omega), if_neg (by omega)]
      generalize a * b = z at *
      omega
  unfold fix_times.f bits_Mul64.f
  have wa : IntKind.u64.wrap a = a ∨ IntKind.u64.wrap a = a + 18446744073709551616 := by rw [IntKind.wrap_u64]; omega
  have wb : IntKind.u64.wrap b = b ∨ IntKind.u64.wrap b = b + 18446744073709551616 := by rw [IntKind.wrap_u64]; omega
  have ra : 0 ≤ IntKind.u64.wrap a ∧ IntKind.u64.wrap a < 18446744073709551616 := by rw [IntKind.wrap_u64]; omega
  have rb : 0 ≤ IntKind.u64.wrap b ∧ IntKind.u64.wrap b < 18446744073709551616 := by rw [IntKind.wrap_u64]; omega
  generalize hA : IntKind.u64.wrap a = A at *
  generalize hB : IntKind.u64.wrap b = B at *
  obtain ⟨k1, k2⟩ := key A B wa wb ra.1 ra.2 rb.1 rb.2
  rw [if_pos (by omega)]
  simp only [Option.bind_some]
  rw [k1, k2]
  generalize a * b = P at *
  have hq : -4611686018427387904 ≤ P / 18446744073709551616 ∧ P / 18446744073709551616 ≤ 4611686018427387904 := by omega
  generalize hr : P % 18446744073709551616 = r at *
  generalize P / 18446744073709551616 = q at *
  clear key k1 k2
  by_cases h1 : a < 0
  · have : A = a + 18446744073709551616 := by omega
    rw [if_pos h1, if_neg (show ¬ A = a by omega)]
    by_cases h2 : b < 0
    · rw [if_pos h2, if_neg (show ¬ B = b by omega), if_neg (by omega)]
      congr 2; simp only [IntKind.wrap_u64, wrap64]; omega
    · rw [if_neg h2, if_pos (show B = b by omega), if_pos (by omega)]
      congr 2; simp only [IntKind.wrap_u64, wrap64]; omega
  · rw [if_neg h1, if_pos (show A = a by omega)]
    by_cases h2 : b < 0
    · rw [if_pos h2, if_neg (show ¬ B = b by omega), if_pos (by omega)]
      congr 2; simp only [IntKind.wrap_u64, wrap64]; omega
    · rw [if_neg h2, if_pos (show B = b by omega), if_pos (by omega)]
      congr 2; simp only [wrap64]; omega
end Go.Proofs.Ytnofihkmgedbfaa.P
namespace Go.Proofs.Ytnofihkmgedbfaa.P
open Go.RowKit Go.Proofs.YtnofihkmgedbfaaW.PrintWords Go.Proofs.YtnofihkmgedbfaaW.PrintLast Go.Proofs.YtnofihkmgedbfaaW.PrintMore
/-- How two numbers stand. -/
def cmpS (x y : Int) : Int := if x < y then -1 else if y < x then 1 else 0
theorem below_eq (P Q : Int) : fix_wide_below.f (P / 18446744073709551616) (P % 18446744073709551616) (Q / 18446744073709551616) (Q % 18446744073709551616) = some (decide (P < Q)) := by
  unfold fix_wide_below.f
  by_cases h1 : P / 18446744073709551616 < Q / 18446744073709551616
  · rw [if_pos h1, decide_eq_true (by omega)]
  · rw [if_neg h1]
    by_cases h2 : P / 18446744073709551616 = Q / 18446744073709551616
    · rw [if_pos h2]; congr 1; rw [decide_eq_decide]; omega
    · rw [if_neg h2, decide_eq_false (by omega)]
theorem compare_eq {a b c d : Int} (ha : I64 a) (hb : I64 b) (hc : I64 c) (hd : I64 d) : fix_Compare.f a b c d = some (cmpS (a * b) (c * d)) := by
  unfold fix_Compare.f cmpS
  rw [times_eq ha hb, times_eq hc hd]
  simp only [Option.bind_some]
  rw [below_eq, below_eq]
  simp only [Option.bind_some, decide_eq_true_eq]
  by_cases h1 : a * b < c * d
  · rw [if_pos h1, if_pos h1]
  · rw [if_neg h1, if_neg h1]
    by_cases h2 : c * d < a * b
    · rw [if_pos h2, if_pos h2]
    · rw [if_neg h2, if_neg h2]
end Go.Proofs.Ytnofihkmgedbfaa.P
namespace Go.Proofs.Ytnofihkmgedbfaa.P
open Go.RowKit Go.Proofs.YtnofihkmgedbfaaW.PrintWords Go.Proofs.YtnofihkmgedbfaaW.PrintLast Go.Proofs.YtnofihkmgedbfaaW.PrintMore
/-- The number that a list of digits tells, the lowest first. -/
def val : List Int → Int
  | [] => 0
  | d :: l => d + 65536 * val l
/-- All of them are digits. -/
def Dig (l : List Int) : Prop := ∀ j, 0 ≤ rd l (j : Nat) ∧ rd l (j : Nat) < 65536
theorem rd_nil (j : Nat) : rd [] (j : Int) = 0 := by simp [rd]
theorem rd_zero (d : Int) (l : List Int) : rd (d :: l) ((0 : Nat) : Int) = d := by simp [rd]
theorem rd_succ (d : Int) (l : List Int) (j : Nat) : rd (d :: l) ((j + 1 : Nat) : Int) = rd l (j : Int) := by simp [rd]
theorem rd_drop (l : List Int) (i j : Nat) : rd (l.drop i) (j : Int) = rd l ((i + j : Nat) : Int) := by
  unfold rd; rw [Int.toNat_natCast, Int.toNat_natCast]; simp [List.getD_eq_getElem?_getD]
theorem rd_set (l : List Int) (i j : Nat) (x : Int) : rd (l.set i x) (j : Int) = if i = j ∧ j < l.length then x else rd l (j : Int) := by
  unfold rd
  simp only [Int.toNat_natCast, List.getD_eq_getElem?_getD, List.getElem?_set]
  by_cases h : i = j
  · subst h
    by_cases h2 : i < l.length
    · simp [h2]
    · simp [h2]
  · simp [h]
theorem Dig.nil : Dig [] := by intro j; rw [rd_nil]; omega
theorem Dig.drop {l : List Int} (h : Dig l) (i : Nat) : Dig (l.drop i) := by intro j; rw [rd_drop]; exact h _
theorem Dig.take {l : List Int} (h : Dig l) (i : Nat) : Dig (l.take i) := by
  intro j
  have := h j
  unfold rd at this ⊢
  simp only [Int.toNat_natCast, List.getD_eq_getElem?_getD, List.getElem?_take] at this ⊢
  split
  · exact this
  · simp
theorem Dig.set {l : List Int} (h : Dig l) (i : Nat) {x : Int} (h0 : 0 ≤ x) (h1 : x < 65536) : Dig (l.set i x) := by
  intro j; rw [rd_set]; split
  · exact ⟨h0, h1⟩
  · exact h j
theorem Dig.cons {d : Int} {l : List Int} (h0 : 0 ≤ d) (h1 : d < 65536) (h : Dig l) : Dig (d :: l) := by
  intro j
  cases j with
  | zero => rw [rd_zero]; exact ⟨h0, h1⟩
  | succ j => rw [rd_succ]; exact h j
theorem Dig.tail {d : Int} {l : List Int} (h : Dig (d :: l)) : Dig l := by
  intro j; have := h (j + 1); rwa [rd_succ] at this
theorem Dig.head {d : Int} {l : List Int} (h : Dig (d :: l)) : 0 ≤ d ∧ d < 65536 := by
  have := h 0; rwa [rd_zero] at this
theorem Dig.zeros (n : Nat) : Dig (List.replicate n 0) := by
  intro j
  have : rd (List.replicate n 0) (j : Int) = 0 := by
    unfold rd; simp only [Int.toNat_natCast, List.getD_eq_getElem?_getD, List.getElem?_replicate]; split <;> simp
  omega
theorem val_nonneg : ∀ {l : List Int}, Dig l → 0 ≤ val l := by
  intro l
  induction l with
  | nil => intro _; simp [val]
  | cons d l ih => intro h; have := ih h.tail; have := h.head; simp only [val]; omega
theorem val_zeros (n : Nat) : val (List.replicate n 0) = 0 := by
  induction n with
  | zero => rfl
  | succ n ih => rw [List.replicate_succ]; simp only [val]; omega
/-- A place's worth. -/
def B (n : Nat) : Int := 65536 ^ n
theorem B_zero : B 0 = 1 := rfl
theorem B_succ (n : Nat) : B (n + 1) = 65536 * B n := by unfold B; rw [Int.pow_succ]; omega
theorem B_pos (n : Nat) : 0 < B n := by
  induction n with
  | zero => decide
  | succ n ih => rw [B_succ]; omega
theorem val_lt : ∀ {l : List Int}, Dig l → val l < B l.length := by
  intro l
  induction l with
  | nil => intro _; decide
  | cons d l ih => intro h; have := ih h.tail; have := h.head; simp only [val, List.length_cons]; rw [B_succ]; omega
theorem val_drop (l : List Int) (i : Nat) : val (l.drop i) = rd l (i : Int) + 65536 * val (l.drop (i + 1)) := by
  induction l generalizing i with
  | nil => simp [val, rd_nil]
  | cons d l ih =>
    cases i with
    | zero => rw [rd_zero]; simp [val]
    | succ i => rw [rd_succ]; exact ih i
theorem val_take (l : List Int) (i : Nat) : val l = val (l.take i) + B i * val (l.drop i) := by
  induction l generalizing i with
  | nil => simp [val]
  | cons d l ih =>
    cases i with
    | zero => simp [val, B]
    | succ i =>
      have := ih i
      simp only [List.take_succ_cons, List.drop_succ_cons, val]
      rw [B_succ]
      grind
theorem val_set (l : List Int) (i : Nat) (x : Int) (h : i < l.length) : val (l.set i x) = val l + B i * (x - rd l (i : Int)) := by
  induction l generalizing i with
  | nil => simp at h
  | cons d l ih =>
    cases i with
    | zero => rw [rd_zero]; simp only [List.set_cons_zero, val, B_zero]; omega
    | succ i =>
      rw [rd_succ]
      simp only [List.set_cons_succ, val]
      rw [ih i (by simpa using h), B_succ]
      grind
theorem val_take_lt {l : List Int} (h : Dig l) (i : Nat) : val (l.take i) < B i := by
  by_cases hi : i ≤ l.length
  · have := val_lt (h.take i); rwa [List.length_take, Nat.min_eq_left hi] at this
  · rw [List.take_of_length_le (by omega)]
    refine Int.lt_of_lt_of_le (val_lt h) ?_
    have : ∀ n m, n ≤ m → B n ≤ B m := by
      intro n m hnm
      induction hnm with
      | refl => omega
      | step _ ih => rw [B_succ]; have := B_pos n; omega
    exact this _ _ (by omega)
def digs : Nat → Nat → List Int
  | 0, _ => []
  | m + 1, n => ((n % 65536 : Nat) : Int) :: digs m (n / 65536)
theorem digs_len (m n : Nat) : (digs m n).length = m := by
  induction m generalizing n with
  | zero => rfl
  | succ m ih => simp [digs, ih]
theorem digs_dig (m n : Nat) : Dig (digs m n) := by
  induction m generalizing n with
  | zero => exact Dig.nil
  | succ m ih => exact Dig.cons (by omega) (by omega) (ih _)
theorem digs_val (m n : Nat) (h : n < 65536 ^ m) : val (digs m n) = n := by
  induction m generalizing n with
  | zero => simp at h; subst h; rfl
  | succ m ih =>
    have : n / 65536 < 65536 ^ m := by rw [Nat.div_lt_iff_lt_mul (by omega)]; rwa [Nat.pow_succ] at h
    simp only [digs, val]
    rw [ih _ this]
    omega
theorem digits_l0 (b : Bool) : ∀ (d i k : Nat) (x : Int) (acc : List Int), d + i = 5 → acc.length = i → -9223372036854775808 ≤ x → x ≤ 9223372036854775807 → d < k →
    celluloidref01_digits.l0 k x b acc (i : Int) = some (acc ++ digs d x.natAbs, b) := by
  intro d
  induction d with
  | zero =>
    intro i k x acc h1 h2 h3 h4 hk
    obtain ⟨k, rfl⟩ : ∃ m, k = m + 1 := ⟨k - 1, by omega⟩
    simp only [celluloidref01_digits.l0]
    rw [if_neg (by omega)]; simp [digs]
  | succ d ih =>
    intro i k x acc h1 h2 h3 h4 hk
    obtain ⟨k, rfl⟩ : ∃ m, k = m + 1 := ⟨k - 1, by omega⟩
    have hd := Int.tdiv_mul_add_tmod x 65536
    have e2 : Int.tdiv x 65536 = if x < 0 then -((x.natAbs / 65536 : Nat) : Int) else ((x.natAbs / 65536 : Nat) : Int) := by
      by_cases h : x < 0
      · rw [if_pos h]
        have : x = -((x.natAbs : Nat) : Int) := by omega
        rw [this, Int.neg_tdiv, Int.natAbs_neg, Int.natAbs_natCast, Int.tdiv_eq_ediv_of_nonneg (by omega), Int.natCast_ediv]; rfl
      · rw [if_neg h, Int.tdiv_eq_ediv_of_nonneg (by omega)]; omega
    simp only [celluloidref01_digits.l0]
    rw [if_pos (by omega), w64_id (n := (i : Int) + 1) (by omega) (by omega)]
    have e3 : (i : Int) + 1 = ((i + 1 : Nat) : Int) := by omega
    have e4 : wrap64 (Int.tdiv x 65536) = Int.tdiv x 65536 := w64_id (by rw [e2]; split <;> omega) (by rw [e2]; split <;> omega)
    have e5 : (Int.tdiv x 65536).natAbs = x.natAbs / 65536 := by rw [e2]; split <;> omega
    have go : ∀ y : Int, y = ((x.natAbs % 65536 : Nat) : Int) → celluloidref01_digits.l0 k (Int.tdiv x 65536) b (acc ++ [y]) ((i + 1 : Nat) : Int) = some (acc ++ digs (d + 1) x.natAbs, b) := by
      intro y hy
      rw [ih (i + 1) k _ (acc ++ [y]) (by omega) (by simp [h2]) (by rw [e2]; split <;> omega) (by rw [e2]; split <;> omega) (by omega), e5]
      simp [digs, hy]
    rw [e3, e4]
    by_cases h : Int.tmod x 65536 < 0
    · rw [if_pos h, if_pos (by omega)]
      have hm : wrap64 (-(Int.tmod x 65536)) = ((x.natAbs % 65536 : Nat) : Int) := by
        have h6 : Int.tmod x 65536 = x - Int.tdiv x 65536 * 65536 := by omega
        have hx : x < 0 := by
          rcases Int.lt_or_le x 0 with hx | hx
          · exact hx
          · rw [e2, if_neg (by omega)] at h6; omega
        rw [e2, if_pos hx] at h6
        rw [h6]; unfold wrap64; omega
      exact go _ hm
    · rw [if_neg h, if_pos (by omega)]
      have hm : Int.tmod x 65536 = ((x.natAbs % 65536 : Nat) : Int) := by
        have h6 : Int.tmod x 65536 = x - Int.tdiv x 65536 * 65536 := by omega
        by_cases hx : x < 0
        · rw [e2, if_pos hx] at h6; omega
        · rw [e2, if_neg hx] at h6; omega
      exact go _ hm
theorem digits_eq {a : Int} (ha : I64 a) (k : Nat) (hk : 10 ≤ k) : celluloidref01_digits.f k a = some (digs 5 a.natAbs, decide (a < 0)) := by
  unfold I64 at ha
  unfold celluloidref01_digits.f
  have := digits_l0 (decide (a < 0)) 5 0 k a [] (by omega) rfl (by omega) (by omega) (by omega)
  exact this
theorem val_eq_zero {l : List Int} (h : Dig l) : val l = 0 ↔ ∀ j : Nat, rd l (j : Int) = 0 := by
  induction l with
  | nil => simp [val, rd_nil]
  | cons d l ih =>
    have h1 := h.head; have h2 := val_nonneg h.tail
    simp only [val]
    constructor
    · intro e j
      cases j with
      | zero => rw [rd_zero]; omega
      | succ j => rw [rd_succ]; exact (ih h.tail).mp (by omega) j
    · intro e
      have e0 := e 0; rw [rd_zero] at e0
      have := (ih h.tail).mpr (fun j => by have := e (j + 1); rwa [rd_succ] at this)
      omega
theorem nought_l0 {l : List Int} (hd : Dig l) (hl : l.length ≤ 1000) : ∀ (d i k : Nat), d + i = l.length → d < k → celluloidref01_nought.l0 k l (i : Int) = some (decide (val (l.drop i) = 0)) := by
  intro d
  induction d with
  | zero =>
    intro i k h hk
    obtain ⟨k, rfl⟩ : ∃ m, k = m + 1 := ⟨k - 1, by omega⟩
    simp only [celluloidref01_nought.l0]
    rw [if_neg (by omega), List.drop_of_length_le (by omega)]; rfl
  | succ d ih =>
    intro i k h hk
    obtain ⟨k, rfl⟩ : ∃ m, k = m + 1 := ⟨k - 1, by omega⟩
    simp only [celluloidref01_nought.l0]
    have hv := val_drop l i
    have h1 := hd i
    have h2 := val_nonneg (hd.drop (i + 1))
    rw [if_pos (by omega), if_pos (by omega), w64_id (by omega) (by omega), show (i : Int) + 1 = ((i + 1 : Nat) : Int) by omega]
    by_cases h0 : rd l (i : Int) = 0
    · rw [if_pos h0, ih (i + 1) k (by omega) (by omega)]
      congr 1; rw [decide_eq_decide]; omega
    · rw [if_neg h0, decide_eq_false (by omega)]
theorem nought_eq {l : List Int} (hd : Dig l) (hl : l.length ≤ 1000) (k : Nat) (hk : 2000 ≤ k) : celluloidref01_nought.f k l = some (decide (val l = 0)) := by
  unfold celluloidref01_nought.f
  exact nought_l0 hd hl l.length 0 k (by omega) (by omega)
theorem times_l1 {a b : List Int} (ha : Dig a) (hb : Dig b) (hla : a.length ≤ 1000) (hlb : b.length ≤ 1000) {i : Nat} (hi : i < a.length) :
    ∀ (d t k : Nat) (l : List Int) (left : Int), d + t = b.length → l.length = a.length + b.length → Dig l → (∀ j, i + b.length ≤ j → rd l (j : Nat) = 0) → 0 ≤ left → left < 65536 →
      ∃ l', celluloidref01_times.l1 (k + d + 1) a b l (i : Int) left (t : Int) = celluloidref01_times.l0 k a b l' ((i + 1 : Nat) : Int) ∧ l'.length = a.length + b.length ∧ Dig l' ∧ (∀ j, i + 1 + b.length ≤ j → rd l' (j : Nat) = 0) ∧
        val l' = val l + B (i + t) * (left + rd a (i : Int) * val (b.drop t)) := by
  intro d
  induction d with
  | zero =>
    intro t k l left h hl hd hz h0 h1
    have ht : t = b.length := by omega
    subst ht
    have hz0 := hz (i + b.length) (by omega)
    refine ⟨l.set (i + b.length) left, ?_, by simp [hl], hd.set _ h0 h1, ?_, ?_⟩
    · simp only [celluloidref01_times.l1]
      rw [if_neg (by omega), w64_id (n := (i : Int) + (b.length : Int)) (by omega) (by omega), show (i : Int) + (b.length : Int) = ((i + b.length : Nat) : Int) by omega,
        if_pos (by omega), if_pos (by omega), hz0, Int.zero_add, w64_id (n := left) (by omega) (by omega), w64_id (n := (i : Int) + 1) (by omega) (by omega), show (i : Int) + 1 = ((i + 1 : Nat) : Int) by omega]
      rfl
    · intro j hj
      rw [rd_set, if_neg (by omega)]; exact hz j (by omega)
    · rw [val_set _ _ _ (by omega), hz0, List.drop_of_length_le (Nat.le_refl _)]
      simp [val]
  | succ d ih =>
    intro t k l left h hl hd hz h0 h1
    have d1 := hd (i + t); have d2 := ha i; have d3 := hb t
    have hp : 0 ≤ rd a (i : Int) * rd b (t : Int) ∧ rd a (i : Int) * rd b (t : Int) ≤ 4294836225 := by
      refine ⟨Int.mul_nonneg d2.1 d3.1, ?_⟩
      have : rd a (i : Int) * rd b (t : Int) ≤ 65535 * 65535 := Int.mul_le_mul (by omega) (by omega) d3.1 (by omega)
      omega
    have hv := val_drop b t
    obtain ⟨p, hpe⟩ : ∃ p, p = rd a (i : Int) * rd b (t : Int) := ⟨_, rfl⟩
    obtain ⟨n, hn⟩ : ∃ n, n = rd l ((i + t : Nat) : Int) + p + left := ⟨_, rfl⟩
    rw [← hpe] at hp
    obtain ⟨l', e1, e2, e3, e4, e5⟩ := ih (t + 1) k (l.set (i + t) (n % 65536)) (n / 65536) (by omega) (by simp [hl]) (hd.set _ (by omega) (by omega))
      (fun j hj => by rw [rd_set, if_neg (by omega)]; exact hz j hj) (by omega) (by omega)
    refine ⟨l', ?_, e2, e3, e4, ?_⟩
    · rw [← e1, show k + (d + 1) + 1 = (k + d + 1) + 1 by omega]
      simp only [celluloidref01_times.l1]
      rw [if_pos (by omega), w64_id (n := (i : Int) + (t : Int)) (by omega) (by omega), show (i : Int) + (t : Int) = ((i + t : Nat) : Int) by omega,
        if_pos (by omega), if_pos (by omega), if_pos (by omega), if_pos (by omega), if_pos (by omega), ← hpe, w64_id (n := p) (by omega) (by omega),
        w64_id (n := rd l ((i + t : Nat) : Int) + p) (by omega) (by omega), w64_id (n := rd l ((i + t : Nat) : Int) + p + left) (by omega) (by omega), ← hn,
        Int.tdiv_eq_ediv_of_nonneg (by omega), Int.tmod_eq_emod_of_nonneg (by omega), w64_id (n := n / 65536) (by omega) (by omega), w64_id (n := (t : Int) + 1) (by omega) (by omega), show (t : Int) + 1 = ((t + 1 : Nat) : Int) by omega, Int.toNat_natCast]
    · rw [e5, val_set _ _ _ (by omega), hv, show i + (t + 1) = (i + t) + 1 by omega, B_succ]
      have hdm : n = 65536 * (n / 65536) + n % 65536 := by omega
      generalize n / 65536 = q at *
      generalize n % 65536 = r at *
      generalize val (b.drop (t + 1)) = V at *
      generalize B (i + t) = P at *
      grind
theorem times_l0 {a b : List Int} (ha : Dig a) (hb : Dig b) (hla : a.length ≤ 1000) (hlb : b.length ≤ 1000) :
    ∀ (d i k : Nat) (l : List Int), d + i = a.length → l.length = a.length + b.length → Dig l → (∀ j, i + b.length ≤ j → rd l (j : Nat) = 0) →
      ∃ l', celluloidref01_times.l0 (k + d * (b.length + 2) + 1) a b l (i : Int) = some l' ∧ l'.length = a.length + b.length ∧ Dig l' ∧ val l' = val l + B i * (val (a.drop i) * val b) := by
  intro d
  induction d with
  | zero =>
    intro i k l h hl hd hz
    refine ⟨l, ?_, hl, hd, ?_⟩
    · simp only [celluloidref01_times.l0]; rw [if_neg (by omega)]
    · rw [List.drop_of_length_le (by omega)]; simp [val]
  | succ d ih =>
    intro i k l h hl hd hz
    obtain ⟨l1, e1, e2, e3, e4, e5⟩ := times_l1 ha hb hla hlb (i := i) (by omega) b.length 0 (k + d * (b.length + 2) + 1) l 0 (by omega) hl hd hz (by omega) (by omega)
    obtain ⟨l', f1, f2, f3, f4⟩ := ih (i + 1) k l1 (by omega) e2 e3 e4
    refine ⟨l', ?_, f2, f3, ?_⟩
    · rw [← f1, ← e1, show k + (d + 1) * (b.length + 2) + 1 = (k + d * (b.length + 2) + 1 + b.length + 1) + 1 by rw [Nat.add_mul]; omega]
      simp only [celluloidref01_times.l0]
      rw [if_pos (by omega)]; rfl
    · have hv := val_drop a i
      rw [f4, e5, hv, B_succ, Nat.add_zero, List.drop_zero, Int.zero_add]
      generalize val (a.drop (i + 1)) = V at *
      generalize B i = P at *
      grind
theorem times_list {a b : List Int} (ha : Dig a) (hb : Dig b) (hla : a.length ≤ 1000) (hlb : b.length ≤ 1000) (k : Nat) (hk : 1100000 ≤ k) :
    ∃ l, celluloidref01_times.f k a b = some l ∧ l.length = a.length + b.length ∧ Dig l ∧ val l = val a * val b := by
  have hb1 : a.length * (b.length + 2) ≤ 1000 * 1002 := Nat.mul_le_mul hla (by omega)
  obtain ⟨l, e1, e2, e3, e4⟩ := times_l0 ha hb hla hlb a.length 0 (k - a.length * (b.length + 2) - 1) (List.replicate (a.length + b.length) 0) (by omega) (by simp) (Dig.zeros _)
    (fun j _ => by have := (val_eq_zero (Dig.zeros (a.length + b.length))).mp (val_zeros _) j; exact this)
  refine ⟨l, ?_, e2, e3, ?_⟩
  · unfold celluloidref01_times.f
    rw [w64_id (by omega) (by omega), if_pos (by omega), if_pos (by omega), ← e1, show ((a.length : Int) + (b.length : Int)).toNat = a.length + b.length by omega,
      show k - a.length * (b.length + 2) - 1 + a.length * (b.length + 2) + 1 = k by omega]
    rfl
  · rw [e4, val_zeros, B_zero]; simp
theorem natAbs_lt {a : Int} (ha : I64 a) : a.natAbs < 65536 ^ 5 := by
  unfold I64 at ha
  have : (65536 : Nat) ^ 5 = 1208925819614629174706176 := by decide
  rw [this]; omega
theorem product_eq {a b : Int} (ha : I64 a) (hb : I64 b) (k : Nat) (hk : 1100000 ≤ k) :
    ∃ l, celluloidref01_product.f k a b = some (l, decide (a * b < 0)) ∧ l.length = 10 ∧ Dig l ∧ val l = ((a * b).natAbs : Int) := by
  obtain ⟨l, e1, e2, e3, e4⟩ := times_list (digs_dig 5 a.natAbs) (digs_dig 5 b.natAbs) (by rw [digs_len]; omega) (by rw [digs_len]; omega) k hk
  rw [digs_len, digs_len] at e2
  rw [digs_val 5 _ (natAbs_lt ha), digs_val 5 _ (natAbs_lt hb), ← Int.natCast_mul, ← Int.natAbs_mul] at e4
  refine ⟨l, ?_, e2, e3, e4⟩
  unfold celluloidref01_product.f
  rw [digits_eq ha k (by omega), Option.bind_some, digits_eq hb k (by omega), Option.bind_some, e1, Option.bind_some]
  have hs : (decide (a < 0) != decide (b < 0)) = true ↔ ¬ (a < 0 ↔ b < 0) := by
    by_cases x : a < 0 <;> by_cases y : b < 0 <;> simp [x, y]
  by_cases h : (decide (a < 0) != decide (b < 0)) = true
  · rw [if_pos h, nought_eq e3 (by omega) k (by omega), Option.bind_some, e4]
    have hs' := hs.mp h
    have : (!decide (((a * b).natAbs : Int) = 0)) = decide (a * b < 0) := by
      rw [Bool.eq_iff_iff]
      simp only [Bool.not_eq_true', decide_eq_false_iff_not, decide_eq_true_eq]
      have hle : a * b ≤ 0 := by
        by_cases x : a < 0
        · exact Int.mul_nonpos_of_nonpos_of_nonneg (by omega) (by omega)
        · exact Int.mul_nonpos_of_nonneg_of_nonpos (by omega) (by omega)
      omega
    rw [this]
  · rw [if_neg h]
    have hs' : (a < 0 ↔ b < 0) := by
      by_cases x : a < 0 <;> by_cases y : b < 0 <;> simp [x, y] at h ⊢
    have hge : 0 ≤ a * b := by
      by_cases x : a < 0
      · exact Int.mul_nonneg_of_nonpos_of_nonpos (by omega) (by omega)
      · exact Int.mul_nonneg (by omega) (by omega)
    rw [decide_eq_false (show ¬ a * b < 0 by omega)]
def cmpV (x y : Int) : Int := if x < y then -1 else if y < x then 1 else 0
theorem order_l0 {a b : List Int} (ha : Dig a) (hb : Dig b) (hl : a.length = b.length) (h1000 : a.length ≤ 1000) :
    ∀ (i k : Nat), i ≤ a.length → val (a.drop i) = val (b.drop i) → i < k → celluloidref01_order.l0 k a b ((i : Int) - 1) = some (cmpV (val a) (val b)) := by
  intro i
  induction i with
  | zero =>
    intro k _ h hk
    obtain ⟨k, rfl⟩ : ∃ m, k = m + 1 := ⟨k - 1, by omega⟩
    simp only [celluloidref01_order.l0]
    simp only [List.drop_zero] at h
    rw [if_neg (by omega), h]; unfold cmpV; rw [if_neg (by omega), if_neg (by omega)]
  | succ i ih =>
    intro k hi h hk
    obtain ⟨k, rfl⟩ : ∃ m, k = m + 1 := ⟨k - 1, by omega⟩
    have va := val_drop a i; have vb := val_drop b i
    have ta := val_take a i; have tb := val_take b i
    have la := val_take_lt ha i; have lb := val_take_lt hb i
    have na := val_nonneg (ha.take i); have nb := val_nonneg (hb.take i)
    have key : ∀ x y : Int, x + 1 ≤ y → B i * x + B i ≤ B i * y := by
      intro x y hxy
      have := Int.mul_le_mul_of_nonneg_left hxy (Int.le_of_lt (B_pos i))
      rw [Int.mul_add, Int.mul_one] at this; exact this
    simp only [celluloidref01_order.l0]
    rw [show ((i + 1 : Nat) : Int) - 1 = (i : Int) by omega, if_pos (by omega), if_pos (by omega), if_pos (by omega), if_pos (by omega)]
    by_cases h1 : rd a (i : Int) < rd b (i : Int)
    · have := key (val (a.drop i)) (val (b.drop i)) (by omega)
      rw [if_pos h1]; unfold cmpV; rw [if_pos (by omega)]
    · rw [if_neg h1]
      by_cases h2 : rd a (i : Int) > rd b (i : Int)
      · have := key (val (b.drop i)) (val (a.drop i)) (by omega)
        rw [if_pos h2]; unfold cmpV; rw [if_neg (by omega), if_pos (by omega)]
      · rw [if_neg h2, w64_id (by omega) (by omega)]
        exact ih k (by omega) (by omega) (by omega)
theorem order_eq {a b : List Int} (ha : Dig a) (hb : Dig b) (hl : a.length = b.length) (h1000 : a.length ≤ 1000) (k : Nat) (hk : 1100000 ≤ k) :
    celluloidref01_order.f k a b = some (cmpV (val a) (val b)) := by
  unfold celluloidref01_order.f
  rw [w64_id (by omega) (by omega)]
  exact order_l0 ha hb hl h1000 a.length k (Nat.le_refl _) (by rw [List.drop_of_length_le (Nat.le_refl _), List.drop_of_length_le (by omega)]) (by omega)
end Go.Proofs.Ytnofihkmgedbfaa.P
namespace Go.Proofs.Ytnofihkmgedbfaa.P
open Go.RowKit Go.Proofs.YtnofihkmgedbfaaW.PrintWords Go.Proofs.YtnofihkmgedbfaaW.PrintLast Go.Proofs.YtnofihkmgedbfaaW.PrintMore
theorem ref_compare {a b c d : Int} (ha : I64 a) (hb : I64 b) (hc : I64 c) (hd : I64 d) (k : Nat) (hk : 1500000 ≤ k) : celluloidref01_Compare.f k a b c d = some (cmpS (a * b) (c * d)) := by
  unfold celluloidref01_Compare.f
  obtain ⟨l, e1, e2, e3, e4⟩ := product_eq ha hb k (by omega)
  obtain ⟨m, f1, f2, f3, f4⟩ := product_eq hc hd k (by omega)
  rw [e1, Option.bind_some, f1, Option.bind_some]
  generalize a * b = P at *
  generalize c * d = Q at *
  unfold cmpS
  by_cases x : P < 0
  · by_cases y : Q < 0
    · rw [decide_eq_true x, decide_eq_true y, if_neg (by simp), if_pos rfl, order_eq f3 e3 (by omega) (by omega) k (by omega), Option.bind_some, e4, f4]
      unfold cmpV
      by_cases h : P < Q
      · rw [if_pos h, if_pos (by omega)]
      · by_cases h' : Q < P
        · rw [if_neg h, if_pos h', if_neg (by omega), if_pos (by omega)]
        · rw [if_neg h, if_neg h', if_neg (by omega), if_neg (by omega)]
    · rw [decide_eq_true x, decide_eq_false y, if_pos (by simp), if_pos rfl, if_pos (by omega)]
  · by_cases y : Q < 0
    · rw [decide_eq_false x, decide_eq_true y, if_pos (by simp), if_neg (by simp), if_neg (by omega), if_pos (by omega)]
    · rw [decide_eq_false x, decide_eq_false y, if_neg (by simp), if_neg (by simp), order_eq e3 f3 (by omega) (by omega) k (by omega), Option.bind_some, e4, f4]
      unfold cmpV
      by_cases h : P < Q
      · rw [if_pos h, if_pos (by omega)]
      · by_cases h' : Q < P
        · rw [if_neg h, if_pos h', if_neg (by omega), if_pos (by omega)]
        · rw [if_neg h, if_neg h', if_neg (by omega), if_neg (by omega)]
end Go.Proofs.Ytnofihkmgedbfaa.P
namespace Go.Proofs.Ytnofihkmgedbfaa.P
open Go.RowKit Go.Proofs.YtnofihkmgedbfaaW.PrintWords Go.Proofs.YtnofihkmgedbfaaW.PrintLast Go.Proofs.YtnofihkmgedbfaaW.PrintMore
/-- Twice the area and the like, by the vectors of a piece and of a sample. -/
def nV (s t u v w : Int) : Prop :=
  if u * u + v * v ≤ s * u + t * v then 4 * ((s - u) * (s - u) + (t - v) * (t - v)) ≤ w * w
  else if s * u + t * v ≤ 0 then 4 * (s * s + t * t) ≤ w * w
  else (2 * (s * v - t * u)) * (2 * (s * v - t * u)) ≤ w * w * (u * u + v * v)
instance (s t u v w : Int) : Decidable (nV s t u v w) := by unfold nV; infer_instance
theorem sq_nn (a : Int) : 0 ≤ a * a := by
  rcases Int.le_total 0 a with h | h
  · exact Int.mul_nonneg h h
  · exact Int.mul_nonneg_of_nonpos_of_nonpos h h
theorem lag (s t u v : Int) : (2 * (s * v - t * u)) * (2 * (s * v - t * u)) = 4 * (s * s + t * t) * (u * u + v * v) - 4 * ((s * u + t * v) * (s * u + t * v)) := by grind
theorem lag2 (s t u v : Int) : (2 * (s * v - t * u)) * (2 * (s * v - t * u)) = 4 * ((s - u) * (s - u) + (t - v) * (t - v)) * (u * u + v * v) - 4 * ((s * u + t * v - (u * u + v * v)) * (s * u + t * v - (u * u + v * v))) := by grind
theorem bee (s t u v : Int) : (s - u) * (s - u) + (t - v) * (t - v) = s * s + t * t - 2 * (s * u + t * v) + (u * u + v * v) := by grind
/-- The document's way. -/
theorem nV_ref (s t u v w : Int) : nV s t u v w ↔ (4 * (s * s + t * t) ≤ w * w ∨ 4 * ((s - u) * (s - u) + (t - v) * (t - v)) ≤ w * w ∨
    (s * s + t * t < (s - u) * (s - u) + (t - v) * (t - v) + (u * u + v * v) ∧ (s - u) * (s - u) + (t - v) * (t - v) < s * s + t * t + (u * u + v * v) ∧ (2 * (s * v - t * u)) * (2 * (s * v - t * u)) ≤ w * w * (u * u + v * v))) := by
  have l1 := lag s t u v
  have l2 := lag2 s t u v
  have b := bee s t u v
  have q1 := sq_nn (s * u + t * v)
  have q2 := sq_nn (s * u + t * v - (u * u + v * v))
  have c0 : 0 ≤ u * u + v * v := by have := sq_nn u; have := sq_nn v; omega
  have m1 : 4 * (s * s + t * t) ≤ w * w → 4 * (s * s + t * t) * (u * u + v * v) ≤ w * w * (u * u + v * v) := fun h => Int.mul_le_mul_of_nonneg_right h c0
  have m2 : 4 * ((s - u) * (s - u) + (t - v) * (t - v)) ≤ w * w → 4 * ((s - u) * (s - u) + (t - v) * (t - v)) * (u * u + v * v) ≤ w * w * (u * u + v * v) := fun h => Int.mul_le_mul_of_nonneg_right h c0
  unfold nV
  generalize (2 * (s * v - t * u)) * (2 * (s * v - t * u)) = X at *
  generalize w * w * (u * u + v * v) = Y at *
  generalize 4 * (s * s + t * t) * (u * u + v * v) = Z at *
  generalize 4 * ((s - u) * (s - u) + (t - v) * (t - v)) * (u * u + v * v) = Z2 at *
  generalize (s * u + t * v - (u * u + v * v)) * (s * u + t * v - (u * u + v * v)) = D2 at *
  generalize (s * u + t * v) * (s * u + t * v) = D at *
  generalize (s - u) * (s - u) + (t - v) * (t - v) = B at *
  generalize s * s + t * t = A at *
  generalize s * u + t * v = d at *
  generalize u * u + v * v = c at *
  generalize w * w = W at *
  by_cases h1 : c ≤ d
  · rw [if_pos h1]; constructor
    · intro h; omega
    · rintro (h | h | h) <;> omega
  · rw [if_neg h1]
    by_cases h2 : d ≤ 0
    · rw [if_pos h2]; constructor
      · intro h; omega
      · rintro (h | h | h) <;> omega
    · rw [if_neg h2]; constructor
      · intro h; right; right; omega
      · rintro (h | h | h)
        · have := m1 h; omega
        · have := m2 h; omega
        · omega
/-- What is near lies not far beside. -/
theorem abs_of_sq {a w : Int} (hw : 0 ≤ w) (h : a * a ≤ w * w) : -w ≤ a ∧ a ≤ w := by
  have e : (w + 1) * (w + 1) = w * w + 2 * w + 1 := by grind
  constructor
  · rcases Int.lt_or_le a (-w) with k | k
    · have := Int.mul_le_mul (a := w + 1) (b := w + 1) (c := -a) (d := -a) (by omega) (by omega) (by omega) (by omega)
      rw [Int.neg_mul_neg] at this; omega
    · exact k
  · rcases Int.lt_or_le w a with k | k
    · have := Int.mul_le_mul (a := w + 1) (b := w + 1) (c := a) (d := a) (by omega) (by omega) (by omega) (by omega)
      omega
    · exact k
theorem nV_reach {s t u v w : Int} (hw : 0 < w) (h : nV s t u v w) : min 0 u - w ≤ s ∧ s ≤ max 0 u + w := by
  unfold nV at h
  by_cases h1 : u * u + v * v ≤ s * u + t * v
  · rw [if_pos h1] at h
    have := sq_nn (s - u); have := sq_nn (t - v)
    have := abs_of_sq (a := s - u) (w := w) (by omega) (by omega)
    omega
  · rw [if_neg h1] at h
    by_cases h2 : s * u + t * v ≤ 0
    · rw [if_pos h2] at h
      have := sq_nn s; have := sq_nn t
      have := abs_of_sq (a := s) (w := w) (by omega) (by omega)
      omega
    · rw [if_neg h2] at h
      have hv := sq_nn v; have hu := sq_nn u
      have e : s * (u * u + v * v) - (s * u + t * v) * u = v * (s * v - t * u) := by grind
      have key : (v * (s * v - t * u)) * (v * (s * v - t * u)) ≤ (w * (u * u + v * v)) * (w * (u * u + v * v)) := by
        have a1 : (v * (s * v - t * u)) * (v * (s * v - t * u)) * 4 = v * v * ((2 * (s * v - t * u)) * (2 * (s * v - t * u))) := by grind
        have a2 : v * v * ((2 * (s * v - t * u)) * (2 * (s * v - t * u))) ≤ v * v * (w * w * (u * u + v * v)) := Int.mul_le_mul_of_nonneg_left h hv
        have a3 : v * v * (w * w * (u * u + v * v)) ≤ (u * u + v * v) * (w * w * (u * u + v * v)) := Int.mul_le_mul_of_nonneg_right (by omega) (Int.mul_nonneg (sq_nn w) (by omega))
        have a4 : (u * u + v * v) * (w * w * (u * u + v * v)) = (w * (u * u + v * v)) * (w * (u * u + v * v)) := by grind
        have := sq_nn (v * (s * v - t * u))
        omega
      have hb := abs_of_sq (Int.mul_nonneg (by omega) (by omega)) key
      rw [← e] at hb
      generalize u * u + v * v = c at *
      generalize s * u + t * v = d at *
      have d0 : 0 < d := by omega
      have dc : d < c := by omega
      constructor
      · rcases Int.lt_or_le s (min 0 u - w) with k | k
        · exfalso
          have b1 : s * c < (min 0 u - w) * c := Int.mul_lt_mul_of_pos_right k (by omega)
          rw [Int.sub_mul] at b1
          have b2 : min 0 u * c ≤ d * u := by
            rcases Int.le_total 0 u with g | g
            · rw [show min 0 u = 0 by omega, Int.zero_mul]; exact Int.mul_nonneg (by omega) g
            · rw [show min 0 u = u by omega, Int.mul_comm u c]; exact Int.mul_le_mul_of_nonpos_right (by omega) g
          omega
        · exact k
      · rcases Int.lt_or_le (max 0 u + w) s with k | k
        · exfalso
          have b1 : (max 0 u + w) * c < s * c := Int.mul_lt_mul_of_pos_right k (by omega)
          rw [Int.add_mul] at b1
          have b2 : d * u ≤ max 0 u * c := by
            rcases Int.le_total 0 u with g | g
            · rw [show max 0 u = u by omega, Int.mul_comm u c]; exact Int.mul_le_mul_of_nonneg_right (by omega) g
            · rw [show max 0 u = 0 by omega, Int.zero_mul]; have := Int.mul_nonneg (a := d) (b := -u) (by omega) (by omega); rw [Int.mul_neg] at this; omega
          omega
        · exact k
theorem nV_swap (s t u v w : Int) : nV t s v u w ↔ nV s t u v w := by
  unfold nV
  have e1 : v * v + u * u = u * u + v * v := Int.add_comm _ _
  have e2 : t * v + s * u = s * u + t * v := Int.add_comm _ _
  have e3 : (t - v) * (t - v) + (s - u) * (s - u) = (s - u) * (s - u) + (t - v) * (t - v) := Int.add_comm _ _
  have e4 : t * t + s * s = s * s + t * t := Int.add_comm _ _
  have e5 : (2 * (t * u - s * v)) * (2 * (t * u - s * v)) = (2 * (s * v - t * u)) * (2 * (s * v - t * u)) := by grind
  rw [e1, e2, e3, e4, e5]
theorem and_low (n : Int) (m : Nat) (hm : m ≤ 62) (c : Int) (hc : c = ((2 ^ m - 1 : Nat) : Int)) : Go.bits .and .i64 n c = n % ((2 ^ m : Nat) : Int) := by
  subst hc
  have hp := Nat.two_pow_pos m
  have hp2 : 2 ^ m ≤ 2 ^ 62 := Nat.pow_le_pow_right (by omega) hm
  have h1 : (BitVec.ofInt 64 ((2 ^ m - 1 : Nat) : Int)).toNat = 2 ^ m - 1 := by
    rw [BitVec.toNat_ofInt]
    generalize 2 ^ m = p at *
    have : (2 : Nat) ^ 64 = 18446744073709551616 := by decide
    rw [this]; omega
  have key : (BitVec.ofInt 64 n &&& BitVec.ofInt 64 ((2 ^ m - 1 : Nat) : Int)).toNat = (n % ((2 ^ 64 : Nat) : Int)).toNat % 2 ^ m := by
    rw [BitVec.toNat_and, BitVec.toNat_ofInt, h1, Nat.and_two_pow_sub_one_eq_mod]
  show IntKind.i64.wrap ((BitVec.ofInt 64 n &&& BitVec.ofInt 64 ((2 ^ m - 1 : Nat) : Int)).toNat : Nat) = n % ((2 ^ m : Nat) : Int)
  rw [key, IntKind.wrap_i64]
  have hdvd : ((2 ^ m : Nat) : Int) ∣ ((2 ^ 64 : Nat) : Int) := by
    rw [Int.natCast_dvd_natCast]; exact Nat.pow_dvd_pow 2 (by omega)
  have e : (((n % ((2 ^ 64 : Nat) : Int)).toNat % 2 ^ m : Nat) : Int) = n % ((2 ^ m : Nat) : Int) := by
    rw [Int.natCast_emod, Int.toNat_of_nonneg (Int.emod_nonneg _ (by decide)), Int.emod_emod_of_dvd _ hdvd]
  rw [e]
  have h0 := Int.emod_nonneg n (show ((2 ^ m : Nat) : Int) ≠ 0 by omega)
  have h2 := Int.emod_lt_of_pos n (show 0 < ((2 ^ m : Nat) : Int) by omega)
  have h62 : (2 : Nat) ^ 62 = 4611686018427387904 := by decide
  generalize n % ((2 ^ m : Nat) : Int) = z at *
  generalize 2 ^ m = p at *
  omega
theorem and1 (n : Int) : Go.bits .and .i64 n 1 = n % 2 := and_low n 1 (by omega) 1 (by decide)
/-- May a point be a curve's? -/
def EvP (x y : Int) : Prop := x % 2 = 0 ∧ y % 2 = 0 ∧ -16777216 ≤ x ∧ x ≤ 16777216 ∧ -16777216 ≤ y ∧ y ≤ 16777216
instance (x y : Int) : Decidable (EvP x y) := by unfold EvP; infer_instance
theorem even_eq (x y : Int) : curve_Even.f x y = some (decide (EvP x y)) := by
  unfold curve_Even.f
  rw [and1, and1]
  by_cases h1 : x % 2 = 0
  · rw [if_pos h1]
    by_cases h2 : y % 2 = 0
    · rw [if_pos h2]
      by_cases h3 : mx x y ≤ 16777216
      · rw [if_pos h3]; congr 1; apply decide_eq_decide.mpr; unfold EvP; unfold mx at h3; unfold mn; omega
      · rw [if_neg h3]; congr 1; symm; apply decide_eq_false; unfold EvP; unfold mx at h3; omega
    · rw [if_neg h2]; congr 1; symm; apply decide_eq_false; unfold EvP; omega
  · rw [if_neg h1]; congr 1; symm; apply decide_eq_false; unfold EvP; omega
theorem tmod2 (x : Int) : Int.tmod x 2 = 0 ↔ x % 2 = 0 := by rw [← Int.dvd_iff_tmod_eq_zero, Int.dvd_iff_emod_eq_zero]
theorem evenR_eq (x y : Int) (k : Nat) (hk : 10 ≤ k) : celluloidref16_Even.f k x y = some (decide (EvP x y)) := by
  obtain ⟨k, rfl⟩ : ∃ m, k = m + 10 := ⟨k - 10, by omega⟩
  have step : ∀ (i : Nat) (k : Nat), i < 2 → celluloidref16_Even.l0 (k + 1) [x, y] 2 (i : Int) = if rd [x, y] (i : Int) % 2 = 0 ∧ rd [x, y] (i : Int) ≤ 16777216 ∧ -16777216 ≤ rd [x, y] (i : Int) then celluloidref16_Even.l0 k [x, y] 2 ((i : Int) + 1) else some false := by
    intro i k hi
    rw [celluloidref16_Even.l0, if_pos (by omega), if_pos (by omega), if_pos (by simp; omega)]
    generalize rd [x, y] (i : Int) = z
    have ht := tmod2 z
    by_cases h1 : z % 2 = 0
    · rw [if_pos (ht.mpr h1)]
      by_cases h2 : z > 16777216
      · rw [if_pos h2, if_neg (by omega)]
      · rw [if_neg h2]
        by_cases h3 : z < -16777216
        · rw [if_pos h3, if_neg (by omega)]
        · rw [if_neg h3, if_pos (by omega), w64_id (by omega) (by omega)]
    · rw [if_neg (fun h => h1 (ht.mp h)), if_neg (by omega)]
  have e : celluloidref16_Even.f (k + 10) x y = celluloidref16_Even.l0 (k + 10) [x, y] 2 ((0 : Nat) : Int) := rfl
  rw [e, step 0 (k + 9) (by omega)]
  have r0 : rd [x, y] ((0 : Nat) : Int) = x := rfl
  have r1 : rd [x, y] ((1 : Nat) : Int) = y := rfl
  rw [r0]
  by_cases h : x % 2 = 0 ∧ x ≤ 16777216 ∧ -16777216 ≤ x
  · rw [if_pos h, show ((0 : Nat) : Int) + 1 = ((1 : Nat) : Int) from rfl, step 1 (k + 8) (by omega), r1]
    by_cases h' : y % 2 = 0 ∧ y ≤ 16777216 ∧ -16777216 ≤ y
    · rw [if_pos h', celluloidref16_Even.l0, if_neg (by omega)]; congr 1; symm; apply decide_eq_true; unfold EvP; omega
    · rw [if_neg h']; congr 1; symm; apply decide_eq_false; unfold EvP; omega
  · rw [if_neg h]; congr 1; symm; apply decide_eq_false; unfold EvP; omega
/-- Is a piece right? -/
def PieceR (ax ay bx bz l w : Int) : Prop := EvP ax ay ∧ EvP bx bz ∧ 0 < l ∧ l < 256 ∧ 0 < w ∧ w ≤ 1048576
instance (ax ay bx bz l w : Int) : Decidable (PieceR ax ay bx bz l w) := by unfold PieceR; infer_instance
/-- Is a sample near a piece? -/
def nP (ax ay bx bz w x y : Int) : Prop := nV (x - ax) (y - ay) (bx - ax) (bz - ay) w
instance (ax ay bx bz w x y : Int) : Decidable (nP ax ay bx bz w x y) := by unfold nP; infer_instance
/-- May a sample be there? -/
def Inn (x y : Int) : Prop := -16777216 ≤ x ∧ x ≤ 16777216 ∧ -16777216 ≤ y ∧ y ≤ 16777216
instance (x y : Int) : Decidable (Inn x y) := by unfold Inn; infer_instance
theorem piece_eq (ax ay bx bz l w : Int) : stroke_RightPiece.f ax ay bx bz l w = some (decide (PieceR ax ay bx bz l w)) := by
  unfold stroke_RightPiece.f
  rw [even_eq, even_eq, Option.bind_some, Option.bind_some]
  unfold PieceR
  by_cases h1 : EvP ax ay
  · rw [if_pos (decide_eq_true h1)]
    by_cases h2 : EvP bx bz
    · rw [if_pos (decide_eq_true h2)]
      by_cases h3 : l ≥ 1
      · rw [if_pos h3]
        by_cases h4 : l < 256
        · rw [if_pos h4]
          by_cases h5 : w ≥ 1
          · rw [if_pos h5]; congr 1; exact decide_eq_decide.mpr ⟨fun h => ⟨h1, h2, by omega, h4, by omega, h⟩, fun h => h.2.2.2.2.2⟩
          · rw [if_neg h5]; congr 1; symm; apply decide_eq_false; intro h; omega
        · rw [if_neg h4]; congr 1; symm; apply decide_eq_false; intro h; exact h4 h.2.2.2.1
      · rw [if_neg h3]; congr 1; symm; apply decide_eq_false; intro h; omega
    · rw [if_neg (by simpa using h2)]; congr 1; symm; apply decide_eq_false; intro h; exact h2 h.2.1
  · rw [if_neg (by simpa using h1)]; congr 1; symm; apply decide_eq_false; intro h; exact h1 h.1
theorem pieceR_eq (ax ay bx bz l w : Int) (k : Nat) (hk : 10 ≤ k) : celluloidref18_Right.f k ax ay bx bz l w = some (decide (PieceR ax ay bx bz l w)) := by
  unfold celluloidref18_Right.f
  rw [evenR_eq _ _ k hk, evenR_eq _ _ k hk, Option.bind_some, Option.bind_some]
  unfold PieceR
  by_cases h1 : EvP ax ay
  · rw [if_pos (decide_eq_true h1)]
    by_cases h2 : EvP bx bz
    · rw [if_pos (decide_eq_true h2)]
      by_cases h3 : l > 0
      · rw [if_pos h3]
        by_cases h4 : l < 256
        · rw [if_pos h4]
          by_cases h5 : w > 0
          · rw [if_pos h5]; congr 1; exact decide_eq_decide.mpr ⟨fun h => ⟨h1, h2, h3, h4, h5, h⟩, fun h => h.2.2.2.2.2⟩
          · rw [if_neg h5]; congr 1; symm; apply decide_eq_false; intro h; exact h5 h.2.2.2.2.1
        · rw [if_neg h4]; congr 1; symm; apply decide_eq_false; intro h; exact h4 h.2.2.2.1
      · rw [if_neg h3]; congr 1; symm; apply decide_eq_false; intro h; exact h3 h.2.2.1
    · rw [if_neg (by simpa using h2)]; congr 1; symm; apply decide_eq_false; intro h; exact h2 h.2.1
  · rw [if_neg (by simpa using h1)]; congr 1; symm; apply decide_eq_false; intro h; exact h1 h.1
/-- Numbers whose product fits. -/
theorem pb {a b : Int} (ha : -33554432 ≤ a ∧ a ≤ 33554432) (hb : -33554432 ≤ b ∧ b ≤ 33554432) : -1125899906842624 ≤ a * b ∧ a * b ≤ 1125899906842624 := by
  have h1 := Int.mul_nonneg (a := 33554432 - a) (b := 33554432 - b) (by omega) (by omega)
  have h2 := Int.mul_nonneg (a := 33554432 + a) (b := 33554432 + b) (by omega) (by omega)
  have h3 := Int.mul_nonneg (a := 33554432 - a) (b := 33554432 + b) (by omega) (by omega)
  have h4 := Int.mul_nonneg (a := 33554432 + a) (b := 33554432 - b) (by omega) (by omega)
  have e1 : (33554432 - a) * (33554432 - b) = 1125899906842624 - 33554432 * a - 33554432 * b + a * b := by grind
  have e2 : (33554432 + a) * (33554432 + b) = 1125899906842624 + 33554432 * a + 33554432 * b + a * b := by grind
  have e3 : (33554432 - a) * (33554432 + b) = 1125899906842624 - 33554432 * a + 33554432 * b - a * b := by grind
  have e4 : (33554432 + a) * (33554432 - b) = 1125899906842624 + 33554432 * a - 33554432 * b - a * b := by grind
  omega
theorem cmp_le (x y : Int) : cmpS x y ≤ 0 ↔ x ≤ y := by
  unfold cmpS
  by_cases h : x < y
  · rw [if_pos h]; omega
  · rw [if_neg h]
    by_cases h' : y < x
    · rw [if_pos h']; omega
    · rw [if_neg h']; omega
theorem near_eq {ax ay bx bz l w x y : Int} (h : PieceR ax ay bx bz l w) (hi : Inn x y) : stroke_near.f ax ay bx bz l w x y = some (decide (nP ax ay bx bz w x y)) := by
  obtain ⟨ha, hb, _, _, hw0, hw1⟩ := h
  unfold EvP at ha hb
  unfold Inn at hi
  have eP : decide (nP ax ay bx bz w x y) = decide (nV (x - ax) (y - ay) (bx - ax) (bz - ay) w) := decide_eq_decide.mpr Iff.rfl
  rw [eP]
  unfold stroke_near.f
  clear eP
  have eW : wrap64 (w * w) = w * w := w64_id (by have := pb (a := w) (b := w) (by omega) (by omega); omega) (by have := pb (a := w) (b := w) (by omega) (by omega); omega)
  have e1 : wrap64 (x - ax) = x - ax := w64_id (by omega) (by omega)
  have e2 : wrap64 (y - ay) = y - ay := w64_id (by omega) (by omega)
  have e3 : wrap64 (bx - ax) = bx - ax := w64_id (by omega) (by omega)
  have e4 : wrap64 (bz - ay) = bz - ay := w64_id (by omega) (by omega)
  have e5 : wrap64 (x - bx) = (x - ax) - (bx - ax) := by rw [w64_id (by omega) (by omega)]; omega
  have e6 : wrap64 (y - bz) = (y - ay) - (bz - ay) := by rw [w64_id (by omega) (by omega)]; omega
  rw [eW, e1, e2, e3, e4, e5, e6]
  have hs : -33554432 ≤ x - ax ∧ x - ax ≤ 33554432 := by omega
  have ht : -33554432 ≤ y - ay ∧ y - ay ≤ 33554432 := by omega
  have hu : -33554432 ≤ bx - ax ∧ bx - ax ≤ 33554432 := by omega
  have hv : -33554432 ≤ bz - ay ∧ bz - ay ≤ 33554432 := by omega
  have hsu : -33554432 ≤ (x - ax) - (bx - ax) ∧ (x - ax) - (bx - ax) ≤ 33554432 := by omega
  have htv : -33554432 ≤ (y - ay) - (bz - ay) ∧ (y - ay) - (bz - ay) ≤ 33554432 := by omega
  have hwp := pb (a := w) (b := w) (by omega) (by omega)
  clear eW e1 e2 e3 e4 e5 e6 hi ha hb hw0 hw1
  generalize x - ax = s at *
  generalize y - ay = t at *
  generalize bx - ax = u at *
  generalize bz - ay = v at *
  have p1 := pb hs hu
  have p2 := pb ht hv
  have p3 := pb hu hu
  have p4 := pb hv hv
  have p5 := pb hsu hsu
  have p6 := pb htv htv
  have p7 := pb hs hs
  have p8 := pb ht ht
  have p9 := pb hs hv
  have p10 := pb ht hu
  rw [w64_id (n := s * u) (by omega) (by omega), w64_id (n := t * v) (by omega) (by omega), w64_id (n := u * u) (by omega) (by omega), w64_id (n := v * v) (by omega) (by omega), w64_id (n := (s - u) * (s - u)) (by omega) (by omega), w64_id (n := (t - v) * (t - v)) (by omega) (by omega), w64_id (n := s * s) (by omega) (by omega), w64_id (n := t * t) (by omega) (by omega), w64_id (n := s * v) (by omega) (by omega), w64_id (n := t * u) (by omega) (by omega),
    w64_id (n := s * u + t * v) (by omega) (by omega), w64_id (n := u * u + v * v) (by omega) (by omega), w64_id (n := (s - u) * (s - u) + (t - v) * (t - v)) (by omega) (by omega), w64_id (n := s * s + t * t) (by omega) (by omega), w64_id (n := s * v - t * u) (by omega) (by omega), w64_id (n := 4 * ((s - u) * (s - u) + (t - v) * (t - v))) (by omega) (by omega), w64_id (n := 4 * (s * s + t * t)) (by omega) (by omega), w64_id (n := 2 * (s * v - t * u)) (by omega) (by omega)]
  by_cases h1 : u * u + v * v ≤ s * u + t * v
  · have e : nV s t u v w ↔ 4 * ((s - u) * (s - u) + (t - v) * (t - v)) ≤ w * w := by unfold nV; rw [if_pos h1]
    have e' : decide (nV s t u v w) = decide (4 * ((s - u) * (s - u) + (t - v) * (t - v)) ≤ w * w) := decide_eq_decide.mpr e
    rw [if_pos h1, e']
    by_cases h2 : s * u + t * v ≤ 0
    · rw [if_pos h2]
    · rw [if_neg h2]
  · rw [if_neg h1]
    by_cases h2 : s * u + t * v ≤ 0
    · have e : nV s t u v w ↔ 4 * (s * s + t * t) ≤ w * w := by unfold nV; rw [if_neg h1, if_pos h2]
      have e' : decide (nV s t u v w) = decide (4 * (s * s + t * t) ≤ w * w) := decide_eq_decide.mpr e
      rw [if_pos h2, e']
    · have e : nV s t u v w ↔ (2 * (s * v - t * u)) * (2 * (s * v - t * u)) ≤ w * w * (u * u + v * v) := by unfold nV; rw [if_neg h1, if_neg h2]
      have e' : decide (cmpS (2 * (s * v - t * u) * (2 * (s * v - t * u))) (w * w * (u * u + v * v)) ≤ 0) = decide (nV s t u v w) := decide_eq_decide.mpr ((cmp_le _ _).trans e.symm)
      rw [if_neg h2, compare_eq (by unfold I64; omega) (by unfold I64; omega) (by unfold I64; omega) (by unfold I64; omega), Option.bind_some, e']
theorem nearR_eq {ax ay bx bz l w x y : Int} (h : PieceR ax ay bx bz l w) (hi : Inn x y) (k : Nat) (hk : 1500001 ≤ k) : celluloidref18_Near.f k ax ay bx bz l w x y = some (decide (nP ax ay bx bz w x y)) := by
  obtain ⟨k, rfl⟩ : ∃ m, k = m + 1 := ⟨k - 1, by omega⟩
  obtain ⟨ha, hb, _, _, hw0, hw1⟩ := h
  unfold EvP at ha hb
  unfold Inn at hi
  have hr := nV_ref (x - ax) (y - ay) (bx - ax) (bz - ay) w
  have eW : wrap64 (w * w) = w * w := w64_id (by have := pb (a := w) (b := w) (by omega) (by omega); omega) (by have := pb (a := w) (b := w) (by omega) (by omega); omega)
  have e1 : wrap64 (ax - x) = -(x - ax) := by rw [w64_id (by omega) (by omega)]; omega
  have e2 : wrap64 (ay - y) = -(y - ay) := by rw [w64_id (by omega) (by omega)]; omega
  have e3 : wrap64 (bx - x) = -((x - ax) - (bx - ax)) := by rw [w64_id (by omega) (by omega)]; omega
  have e4 : wrap64 (bz - y) = -((y - ay) - (bz - ay)) := by rw [w64_id (by omega) (by omega)]; omega
  have e5 : wrap64 (ax - bx) = -(bx - ax) := by rw [w64_id (by omega) (by omega)]; omega
  have e6 : wrap64 (ay - bz) = -(bz - ay) := by rw [w64_id (by omega) (by omega)]; omega
  have e7 : wrap64 (bx - ax) = bx - ax := w64_id (by omega) (by omega)
  have e8 : wrap64 (bz - ay) = bz - ay := w64_id (by omega) (by omega)
  have e9 : wrap64 (x - ax) = x - ax := w64_id (by omega) (by omega)
  have e10 : wrap64 (y - ay) = y - ay := w64_id (by omega) (by omega)
  have hs : -33554432 ≤ x - ax ∧ x - ax ≤ 33554432 := by omega
  have ht : -33554432 ≤ y - ay ∧ y - ay ≤ 33554432 := by omega
  have hu : -33554432 ≤ bx - ax ∧ bx - ax ≤ 33554432 := by omega
  have hv : -33554432 ≤ bz - ay ∧ bz - ay ≤ 33554432 := by omega
  have hsu : -33554432 ≤ (x - ax) - (bx - ax) ∧ (x - ax) - (bx - ax) ≤ 33554432 := by omega
  have htv : -33554432 ≤ (y - ay) - (bz - ay) ∧ (y - ay) - (bz - ay) ≤ 33554432 := by omega
  have hwp := pb (a := w) (b := w) (by omega) (by omega)
  have eP : decide (nP ax ay bx bz w x y) = decide (nV (x - ax) (y - ay) (bx - ax) (bz - ay) w) := decide_eq_decide.mpr Iff.rfl
  rw [eP]
  clear eP
  unfold celluloidref18_Near.f celluloidref18_square.f
  rw [e1, e2, e3, e4, e5, e6, Option.bind_some, Option.bind_some, Option.bind_some]
  simp only [celluloidref18_Near.j0]
  rw [eW, e7, e8, e9, e10]
  clear eW e1 e2 e3 e4 e5 e6 e7 e8 e9 e10 hi ha hb hw0 hw1
  generalize x - ax = s at *
  generalize y - ay = t at *
  generalize bx - ax = u at *
  generalize bz - ay = v at *
  have p1 := pb hs hu
  have p2 := pb ht hv
  have p3 := pb hu hu
  have p4 := pb hv hv
  have p5 := pb hsu hsu
  have p6 := pb htv htv
  have p7 := pb hs hs
  have p8 := pb ht ht
  have p9 := pb hu ht
  have p10 := pb hv hs
  rw [Int.neg_mul_neg, Int.neg_mul_neg, Int.neg_mul_neg, Int.neg_mul_neg, Int.neg_mul_neg, Int.neg_mul_neg]
  rw [w64_id (n := u * u) (by omega) (by omega), w64_id (n := v * v) (by omega) (by omega), w64_id (n := (s - u) * (s - u)) (by omega) (by omega), w64_id (n := (t - v) * (t - v)) (by omega) (by omega), w64_id (n := s * s) (by omega) (by omega), w64_id (n := t * t) (by omega) (by omega), w64_id (n := u * t) (by omega) (by omega), w64_id (n := v * s) (by omega) (by omega),
    w64_id (n := u * u + v * v) (by omega) (by omega), w64_id (n := (s - u) * (s - u) + (t - v) * (t - v)) (by omega) (by omega), w64_id (n := s * s + t * t) (by omega) (by omega), w64_id (n := u * t - v * s) (by omega) (by omega), w64_id (n := 4 * ((s - u) * (s - u) + (t - v) * (t - v))) (by omega) (by omega), w64_id (n := 4 * (s * s + t * t)) (by omega) (by omega), w64_id (n := 2 * (u * t - v * s)) (by omega) (by omega),
    w64_id (n := (s - u) * (s - u) + (t - v) * (t - v) + (u * u + v * v)) (by omega) (by omega), w64_id (n := s * s + t * t + (u * u + v * v)) (by omega) (by omega)]
  have ex : (2 * (u * t - v * s)) * (2 * (u * t - v * s)) = (2 * (s * v - t * u)) * (2 * (s * v - t * u)) := by grind
  rw [ref_compare (a := 2 * (u * t - v * s)) (b := 2 * (u * t - v * s)) (c := w * w) (d := u * u + v * v) (by unfold I64; omega) (by unfold I64; omega) (by unfold I64; omega) (by unfold I64; omega) k (by omega), Option.bind_some, ex]
  have eC : decide (cmpS (2 * (s * v - t * u) * (2 * (s * v - t * u))) (w * w * (u * u + v * v)) ≤ 0) = decide (2 * (s * v - t * u) * (2 * (s * v - t * u)) ≤ w * w * (u * u + v * v)) := decide_eq_decide.mpr (cmp_le _ _)
  rw [eC]
  clear eC ex
  generalize (2 * (s * v - t * u)) * (2 * (s * v - t * u)) = X at *
  generalize w * w * (u * u + v * v) = Y at *
  generalize (s - u) * (s - u) + (t - v) * (t - v) = B at *
  generalize s * s + t * t = A at *
  generalize u * u + v * v = c at *
  generalize w * w = W at *
  by_cases h1 : 4 * A ≤ W
  · rw [if_pos h1, if_pos (by simp), decide_eq_true (hr.mpr (.inl h1))]
  · rw [if_neg h1]
    by_cases h2 : 4 * B ≤ W
    · rw [decide_eq_true h2, if_pos (by simp), decide_eq_true (hr.mpr (.inr (.inl h2)))]
    · rw [decide_eq_false h2, if_neg (by simp)]
      by_cases h3 : A ≥ B + c
      · rw [if_pos h3, decide_eq_false (fun g => by rcases hr.mp g with g | g | g <;> omega)]
      · rw [if_neg h3]
        by_cases h4 : B ≥ A + c
        · rw [if_pos h4, decide_eq_false (fun g => by rcases hr.mp g with g | g | g <;> omega)]
        · rw [if_neg h4]; congr 1
          exact decide_eq_decide.mpr ⟨fun g => hr.mpr (.inr (.inr ⟨by omega, by omega, g⟩)), fun g => by rcases hr.mp g with g | g | g <;> omega⟩
theorem awake_at : celluloidlaw18_awake.f 200 = some true := by kernel_rfl
theorem awake_eq (k : Nat) (hk : 200 ≤ k) : celluloidlaw18_awake.f k = some true := at_rounds celluloidlaw18_awake.mono hk awake_at
end Go.Proofs.Ytnofihkmgedbfaa.P
namespace Go.Proofs.Ytnofihkmgedbfaa.P
open Go.RowKit Go.Proofs.YtnofihkmgedbfaaW.PrintWords Go.Proofs.YtnofihkmgedbfaaW.PrintLast Go.Proofs.YtnofihkmgedbfaaW.PrintMore
/-- A piece. -/
abbrev Pc := S25
def pcR (p : Pc) : Prop := PieceR p.f0.f0 p.f0.f1 p.f1.f0 p.f1.f1 p.f2 p.f3
instance (p : Pc) : Decidable (pcR p) := by unfold pcR; infer_instance
def pcN (p : Pc) (x y : Int) : Prop := nP p.f0.f0 p.f0.f1 p.f1.f0 p.f1.f1 p.f3 x y
instance (p : Pc) (x y : Int) : Decidable (pcN p x y) := by unfold pcN; infer_instance
/-- Are they all right? -/
def allR (l : List Pc) : Bool := l.all fun p => decide (pcR p)
theorem allR_yes {l : List Pc} (h : ∀ p ∈ l, pcR p) : allR l = true := by unfold allR; rw [List.all_eq_true]; intro p hp; exact decide_eq_true (h p hp)
theorem allR_no {l : List Pc} (h : ¬ ∀ p ∈ l, pcR p) : allR l = false := by
  cases e : allR l with
  | false => rfl
  | true => exfalso; apply h; intro p hp; unfold allR at e; rw [List.all_eq_true] at e; exact of_decide_eq_true (e p hp)
/-- The greatest line so far, with one piece more. -/
def stp (x y b : Int) (p : Pc) : Int := if b < p.f2 ∧ pcN p x y then p.f2 else b
/-- The line of a sample. -/
def ownS (l : List Pc) (x y : Int) : Int := l.foldl (stp x y) 0
/-- Where a sample is. -/
def sm (n : Nat) : Int := 16 * (n : Int) + 7
theorem rdp (l : List Pc) (i : Nat) (h : i < l.length) : rd_T25 l (i : Int) = l[i] := by
  unfold rd_T25; rw [Int.toNat_natCast]; simp [List.getD_eq_getElem?_getD, h]
theorem drop_at (l : List Pc) (i : Nat) (h : i < l.length) : l.drop i = l[i] :: l.drop (i + 1) := List.drop_eq_getElem_cons h
theorem piece37_eq {l : List Pc} (hl : l.length ≤ 9223372036854775807) : ∀ (d i k : Nat), d + i = l.length → d < k → ∃ r : Int, stroke_Piece_37.l0 k l (l.length : Int) (i : Int) = some r ∧ (0 ≤ r ↔ ∃ p ∈ l.drop i, ¬ pcR p) := by
  intro d
  induction d with
  | zero =>
    intro i k h hk
    obtain ⟨k, rfl⟩ : ∃ m, k = m + 1 := ⟨k - 1, by omega⟩
    refine ⟨-1, ?_, ?_⟩
    · rw [stroke_Piece_37.l0, if_neg (by omega)]
    · rw [List.drop_of_length_le (by omega)]; simp
  | succ d ih =>
    intro i k h hk
    obtain ⟨k, rfl⟩ : ∃ m, k = m + 1 := ⟨k - 1, by omega⟩
    rw [stroke_Piece_37.l0, if_pos (by omega), if_pos (by omega), if_pos (by omega), rdp l i (by omega), drop_at l i (by omega)]
    unfold stroke_Owners_1.f
    rw [piece_eq, Option.bind_some, Option.bind_some]
    by_cases hp : PieceR l[i].f0.f0 l[i].f0.f1 l[i].f1.f0 l[i].f1.f1 l[i].f2 l[i].f3
    · rw [decide_eq_true hp, if_neg (by simp), w64_id (by omega) (by omega), show (i : Int) + 1 = ((i + 1 : Nat) : Int) by omega]
      obtain ⟨r, e, hr⟩ := ih (i + 1) k (by omega) (by omega)
      refine ⟨r, e, hr.trans ⟨fun ⟨p, h1, h2⟩ => ⟨p, List.mem_cons_of_mem _ h1, h2⟩, ?_⟩⟩
      rintro ⟨p, h1, h2⟩
      rcases List.mem_cons.mp h1 with rfl | h1
      · exact absurd hp h2
      · exact ⟨p, h1, h2⟩
    · rw [decide_eq_false hp, if_pos (by simp)]
      exact ⟨i, rfl, fun _ => ⟨_, List.mem_cons_self .., hp⟩, fun _ => by omega⟩
theorem piece26_eq {l : List Pc} (hl : l.length ≤ 9223372036854775807) (k : Nat) (hk : l.length < k) : stroke_Piece_26.f k l = some (decide (∃ p ∈ l, ¬ pcR p)) := by
  unfold stroke_Piece_26.f stroke_Piece_37.f
  obtain ⟨r, e, hr⟩ := piece37_eq hl l.length 0 k (by omega) hk
  rw [show (0 : Int) = ((0 : Nat) : Int) from rfl, e, Option.bind_some]
  congr 1
  exact decide_eq_decide.mpr hr
theorem reach_eq {a b w : Int} {n : Nat} (ha : -16777216 ≤ a ∧ a ≤ 16777216) (hb : -16777216 ≤ b ∧ b ≤ 16777216) (hw : 0 < w ∧ w ≤ 1048576) (hn : n ≤ 1024) :
    ∃ lo hi : Nat, stroke_reach.f a b w (n : Int) = some ((lo : Int), (hi : Int)) ∧ lo ≤ n ∧ hi ≤ n ∧ ∀ c : Nat, c < n → min a b - w ≤ sm c → sm c ≤ max a b + w → lo ≤ c ∧ c < hi := by
  unfold stroke_reach.f
  obtain ⟨m, hm⟩ : ∃ m, m = min a b - w - 7 := ⟨_, rfl⟩
  obtain ⟨M, hM⟩ : ∃ M, M = max a b + w - 7 := ⟨_, rfl⟩
  have e1 : wrap64 (wrap64 (mn a b - w) - 7) = m := by
    rw [w64_id (n := mn a b - w) (by unfold mn; omega) (by unfold mn; omega), w64_id (by unfold mn; omega) (by unfold mn; omega)]; unfold mn; omega
  have e2 : wrap64 (wrap64 (mx a b + w) - 7) = M := by
    rw [w64_id (n := mx a b + w) (by unfold mx; omega) (by unfold mx; omega), w64_id (by unfold mx; omega) (by unfold mx; omega)]; unfold mx; omega
  rw [e1, e2]
  have t1 := Int.mul_tdiv_add_tmod m 16
  have t2 := Int.mul_tdiv_add_tmod M 16
  have b1 : -16 < Int.tmod m 16 ∧ Int.tmod m 16 < 16 := ⟨Int.lt_tmod_of_pos m (by decide), Int.tmod_lt_of_pos m (by decide)⟩
  have b2 : -16 < Int.tmod M 16 ∧ Int.tmod M 16 < 16 := ⟨Int.lt_tmod_of_pos M (by decide), Int.tmod_lt_of_pos M (by decide)⟩
  generalize Int.tdiv m 16 = q at *
  generalize Int.tdiv M 16 = Q at *
  generalize Int.tmod m 16 = r at *
  generalize Int.tmod M 16 = R at *
  rw [w64_id (n := q) (by omega) (by omega), w64_id (n := Q) (by omega) (by omega), w64_id (n := q - 1) (by omega) (by omega), w64_id (n := Q + 2) (by omega) (by omega)]
  refine ⟨(mn (mx (q - 1) 0) n).toNat, (mx (mn (Q + 2) n) 0).toNat, ?_, ?_, ?_, ?_⟩
  · congr 1
    have f1 : ((mn (mx (q - 1) 0) n).toNat : Int) = mn (mx (q - 1) 0) n := Int.toNat_of_nonneg (by unfold mn mx; omega)
    have f2 : ((mx (mn (Q + 2) n) 0).toNat : Int) = mx (mn (Q + 2) n) 0 := Int.toNat_of_nonneg (by unfold mn mx; omega)
    rw [f1, f2]
  · unfold mn mx; omega
  · unfold mn mx; omega
  · intro c hc g1 g2
    unfold sm at g1 g2
    unfold mn mx
    omega
/-- A frame of so many columns and rows, as the numbers of its places tell it. -/
def Frm (cols rows : Nat) (o : List Int) (f : Nat → Nat → Int) : Prop := o.length = cols * rows ∧ ∀ r c, r < rows → c < cols → rd o ((r * cols + c : Nat) : Int) = f r c
theorem place_lt {cols rows r c : Nat} (hr : r < rows) (hc : c < cols) : r * cols + c < cols * rows := by
  have h : (r + 1) * cols ≤ rows * cols := Nat.mul_le_mul_right _ hr
  rw [Nat.add_mul, Nat.one_mul] at h
  rw [Nat.mul_comm cols rows]; omega
theorem place_inj {cols r c r' c' : Nat} (hc : c < cols) (hc' : c' < cols) (h : r * cols + c = r' * cols + c') : r = r' ∧ c = c' := by
  have hp : 0 < cols := by omega
  have h1 : (r * cols + c) / cols = r := by rw [Nat.mul_comm, Nat.mul_add_div hp, Nat.div_eq_of_lt hc, Nat.add_zero]
  have h2 : (r' * cols + c') / cols = r' := by rw [Nat.mul_comm, Nat.mul_add_div hp, Nat.div_eq_of_lt hc', Nat.add_zero]
  rw [h] at h1
  have : r = r' := by omega
  subst this
  omega
theorem rd_set' (l : List Int) (i j : Nat) (x : Int) : rd (l.set i x) (j : Int) = if i = j ∧ j < l.length then x else rd l (j : Int) := by
  unfold rd
  simp only [Int.toNat_natCast, List.getD_eq_getElem?_getD, List.getElem?_set]
  by_cases h : i = j
  · subst h
    by_cases h2 : i < l.length
    · simp [h2]
    · simp [h2]
  · simp [h]
theorem Frm.frmset {cols rows : Nat} {o : List Int} {f : Nat → Nat → Int} (h : Frm cols rows o f) {r c : Nat} (hr : r < rows) (hc : c < cols) (v : Int) : Frm cols rows (o.set (r * cols + c) v) (fun r' c' => if r' = r ∧ c' = c then v else f r' c') := by
  refine ⟨by rw [List.length_set]; exact h.1, fun r' c' hr' hc' => ?_⟩
  rw [rd_set']
  by_cases e : r' = r ∧ c' = c
  · obtain ⟨rfl, rfl⟩ := e
    rw [if_pos ⟨rfl, by rw [h.1]; exact place_lt hr' hc'⟩]; simp
  · rw [if_neg (fun g => e (by have := place_inj hc hc' g.1; omega)), h.2 r' c' hr' hc']; simp [e]
theorem Frm.frmcong {cols rows : Nat} {o : List Int} {f g : Nat → Nat → Int} (h : Frm cols rows o f) (e : ∀ r c, r < rows → c < cols → f r c = g r c) : Frm cols rows o g :=
  ⟨h.1, fun r c hr hc => (h.2 r c hr hc).trans (e r c hr hc)⟩
theorem Frm.frmzero (cols rows : Nat) : Frm cols rows (List.replicate (cols * rows) 0) (fun _ _ => 0) := by
  refine ⟨by simp, fun r c hr hc => ?_⟩
  unfold rd
  rw [Int.toNat_natCast]
  simp [List.getD_eq_getElem?_getD, place_lt hr hc]
theorem sm_in {n : Nat} (h : n < 1024) : -16777216 ≤ sm n ∧ sm n ≤ 16777216 := by unfold sm; omega
theorem own_row {cols rows : Nat} (hc : cols ≤ 1024) (hr : rows ≤ 1024) {l : List Pc} {p : Pc} (hp : pcR p) {ln i : Int} {left right bottom : Nat} (hright : right ≤ cols) {r : Nat} (hrow : r < rows) :
    ∀ (d c : Nat) (o : List Int) (f : Nat → Nat → Int), right - c = d → Frm cols rows o f → ∃ o', Frm cols rows o' (fun r' c' => if r' = r ∧ c ≤ c' ∧ c' < right then stp (sm c') (sm r') (f r' c') p else f r' c') ∧
      ∀ k, stroke_Owners.l2 (k + d + 1) (cols : Int) (rows : Int) o (left : Int) (right : Int) (bottom : Int) (r : Int) (c : Int) l ln i p.f0.f0 p.f0.f1 p.f1.f0 p.f1.f1 p.f2 p.f3 = stroke_Owners.l1 k (cols : Int) (rows : Int) o' (left : Int) (right : Int) (bottom : Int) ((r : Int) + 1) l ln i p.f0.f0 p.f0.f1 p.f1.f0 p.f1.f1 p.f2 p.f3 := by
  intro d
  induction d with
  | zero =>
    intro c o f hd hf
    refine ⟨o, hf.frmcong (fun r' c' _ _ => by rw [if_neg (by omega)]), fun k => ?_⟩
    rw [stroke_Owners.l2, if_neg (by omega), w64_id (n := (r : Int) + 1) (by omega) (by omega)]
  | succ d ih =>
    intro c o f hd hf
    have hcc : c < cols := by omega
    have hl := place_lt (cols := cols) (rows := rows) hrow hcc
    have hm : cols * rows ≤ 1024 * 1024 := Nat.mul_le_mul hc hr
    have e1 : wrap64 (wrap64 ((r : Int) * (cols : Int)) + (c : Int)) = ((r * cols + c : Nat) : Int) := by
      have : (r : Int) * (cols : Int) = ((r * cols : Nat) : Int) := by simp
      rw [this, w64_id (n := ((r * cols : Nat) : Int)) (by omega) (by omega), w64_id (by omega) (by omega)]; omega
    have e2 : wrap64 (wrap64 (16 * (c : Int)) + 7) = sm c := by rw [w64_id (n := 16 * (c : Int)) (by omega) (by omega), w64_id (by omega) (by omega)]; rfl
    have e3 : wrap64 (wrap64 (16 * (r : Int)) + 7) = sm r := by rw [w64_id (n := 16 * (r : Int)) (by omega) (by omega), w64_id (by omega) (by omega)]; rfl
    have hlen := hf.1
    have hv := hf.2 r c hrow hcc
    have hi : Inn (sm c) (sm r) := by have := sm_in (n := c) (by omega); have := sm_in (n := r) (by omega); unfold Inn; omega
    have step : ∀ k, stroke_Owners.l2 (k + 1) (cols : Int) (rows : Int) o (left : Int) (right : Int) (bottom : Int) (r : Int) (c : Int) l ln i p.f0.f0 p.f0.f1 p.f1.f0 p.f1.f1 p.f2 p.f3 =
        stroke_Owners.l2 k (cols : Int) (rows : Int) (if f r c < p.f2 ∧ pcN p (sm c) (sm r) then o.set (r * cols + c) p.f2 else o) (left : Int) (right : Int) (bottom : Int) (r : Int) ((c + 1 : Nat) : Int) l ln i p.f0.f0 p.f0.f1 p.f1.f0 p.f1.f1 p.f2 p.f3 := by
      intro k
      rw [stroke_Owners.l2, if_pos (by omega), e1, e2, e3, if_pos (by omega), if_pos (by omega), hv, w64_id (n := (c : Int) + 1) (by omega) (by omega), show (c : Int) + 1 = ((c + 1 : Nat) : Int) by omega]
      by_cases g : f r c < p.f2
      · rw [if_pos g, near_eq hp hi, Option.bind_some]
        by_cases g2 : nP p.f0.f0 p.f0.f1 p.f1.f0 p.f1.f1 p.f3 (sm c) (sm r)
        · rw [if_pos (decide_eq_true g2), if_pos ⟨g, g2⟩, Int.toNat_natCast]
        · rw [if_neg (by simpa using g2), if_neg (fun h => g2 h.2)]
      · rw [if_neg g, if_neg (fun h => g h.1)]
    have hf' : Frm cols rows (if f r c < p.f2 ∧ pcN p (sm c) (sm r) then o.set (r * cols + c) p.f2 else o) (fun r' c' => if r' = r ∧ c' = c then stp (sm c') (sm r') (f r' c') p else f r' c') := by
      by_cases g : f r c < p.f2 ∧ pcN p (sm c) (sm r)
      · rw [if_pos g]
        refine (hf.frmset hrow hcc p.f2).frmcong (fun r' c' _ _ => ?_)
        by_cases e : r' = r ∧ c' = c
        · obtain ⟨rfl, rfl⟩ := e; unfold stp; simp [g]
        · simp [e]
      · rw [if_neg g]
        refine hf.frmcong (fun r' c' _ _ => ?_)
        by_cases e : r' = r ∧ c' = c
        · obtain ⟨rfl, rfl⟩ := e; unfold stp; simp [g]
        · simp [e]
    clear e1 e2 e3 hv hlen hl hm hi
    obtain ⟨o', h1, h2⟩ := ih (c + 1) _ _ (by omega) hf'
    refine ⟨o', h1.frmcong (fun r' c' _ _ => ?_), fun k => ?_⟩
    · by_cases e : r' = r ∧ c' = c
      · obtain ⟨rfl, rfl⟩ := e; rw [if_neg (by omega), if_pos ⟨rfl, rfl⟩, if_pos (by omega)]
      · by_cases e' : r' = r ∧ c + 1 ≤ c' ∧ c' < right
        · rw [if_pos e', if_neg e, if_pos (by omega)]
        · rw [if_neg e', if_neg e, if_neg (by omega)]
    · rw [show k + (d + 1) + 1 = k + d + 1 + 1 by omega, step]; exact h2 k
theorem own_rows {cols rows : Nat} (hc : cols ≤ 1024) (hr : rows ≤ 1024) {l : List Pc} {p : Pc} (hp : pcR p) {ln i : Int} {left right bottom : Nat} (hright : right ≤ cols) (hb : bottom ≤ rows) :
    ∀ (d r : Nat) (o : List Int) (f : Nat → Nat → Int), bottom - r = d → Frm cols rows o f → ∃ N o', Frm cols rows o' (fun r' c' => if r ≤ r' ∧ r' < bottom ∧ left ≤ c' ∧ c' < right then stp (sm c') (sm r') (f r' c') p else f r' c') ∧
      ∀ k, stroke_Owners.l1 (k + N) (cols : Int) (rows : Int) o (left : Int) (right : Int) (bottom : Int) (r : Int) l ln i p.f0.f0 p.f0.f1 p.f1.f0 p.f1.f1 p.f2 p.f3 = stroke_Owners.l0 k (cols : Int) (rows : Int) o' l ln (wrap64 (i + 1)) := by
  intro d
  induction d with
  | zero =>
    intro r o f hd hf
    refine ⟨1, o, hf.frmcong (fun r' c' _ _ => by rw [if_neg (by omega)]), fun k => ?_⟩
    rw [stroke_Owners.l1, if_neg (by omega)]
  | succ d ih =>
    intro r o f hd hf
    obtain ⟨o1, h1, g1⟩ := own_row hc hr (l := l) hp (ln := ln) (i := i) (left := left) (bottom := bottom) hright (r := r) (by omega) (right - left) left o f rfl hf
    obtain ⟨N, o2, h2, g2⟩ := ih (r + 1) o1 _ (by omega) h1
    refine ⟨N + (right - left) + 1 + 1, o2, h2.frmcong (fun r' c' _ _ => ?_), fun k => ?_⟩
    · by_cases e : r' = r ∧ left ≤ c' ∧ c' < right
      · rw [if_neg (by omega), if_pos e, if_pos (by omega)]
      · rw [if_neg e]
        by_cases e' : r + 1 ≤ r' ∧ r' < bottom ∧ left ≤ c' ∧ c' < right
        · rw [if_pos e', if_pos (by omega)]
        · rw [if_neg e', if_neg (by omega)]
    · rw [show k + (N + (right - left) + 1 + 1) = (k + N) + (right - left) + 1 + 1 by omega, stroke_Owners.l1, if_pos (by omega), g1, show (r : Int) + 1 = ((r + 1 : Nat) : Int) by omega]
      exact g2 k
theorem pcN_reach {p : Pc} (hp : pcR p) {x y : Int} (h : pcN p x y) : (min p.f0.f0 p.f1.f0 - p.f3 ≤ x ∧ x ≤ max p.f0.f0 p.f1.f0 + p.f3) ∧ min p.f0.f1 p.f1.f1 - p.f3 ≤ y ∧ y ≤ max p.f0.f1 p.f1.f1 + p.f3 := by
  have hw : 0 < p.f3 := hp.2.2.2.2.1
  unfold pcN nP at h
  have a := nV_reach hw h
  have b := nV_reach hw ((nV_swap _ _ _ _ _).mpr h)
  omega
theorem own_all {cols rows : Nat} (hc : cols ≤ 1024) (hr : rows ≤ 1024) {l : List Pc} (hl : l.length ≤ 9223372036854775807) (hp : ∀ p ∈ l, pcR p) :
    ∀ (d i : Nat) (o : List Int) (f : Nat → Nat → Int), d + i = l.length → Frm cols rows o f → ∃ N o', Frm cols rows o' (fun r c => (l.drop i).foldl (stp (sm c) (sm r)) (f r c)) ∧
      ∀ k, stroke_Owners.l0 (k + N) (cols : Int) (rows : Int) o l (l.length : Int) (i : Int) = some (o', 0) := by
  intro d
  induction d with
  | zero =>
    intro i o f hd hf
    refine ⟨1, o, hf.frmcong (fun r c _ _ => by rw [List.drop_of_length_le (by omega)]; rfl), fun k => ?_⟩
    rw [stroke_Owners.l0, if_neg (by omega)]
  | succ d ih =>
    intro i o f hd hf
    have hi : i < l.length := by omega
    have hpi := hp l[i] (List.getElem_mem _)
    have ha := hpi.1
    have hb := hpi.2.1
    have hw : 0 < l[i].f3 ∧ l[i].f3 ≤ 1048576 := hpi.2.2.2.2
    unfold EvP at ha hb
    obtain ⟨left, right, e1, b1, b2, w1⟩ := reach_eq (a := l[i].f0.f0) (b := l[i].f1.f0) (w := l[i].f3) (n := cols) (by omega) (by omega) hw hc
    obtain ⟨top, bottom, e2, b3, b4, w2⟩ := reach_eq (a := l[i].f0.f1) (b := l[i].f1.f1) (w := l[i].f3) (n := rows) (by omega) (by omega) hw hr
    obtain ⟨N1, o1, h1, g1⟩ := own_rows hc hr (l := l) hpi (ln := (l.length : Int)) (i := (i : Int)) (left := left) b2 b4 (bottom - top) top o f rfl hf
    obtain ⟨N2, o2, h2, g2⟩ := ih (i + 1) o1 _ (by omega) h1
    refine ⟨N2 + N1 + 1, o2, h2.frmcong (fun r c hr' hc' => ?_), fun k => ?_⟩
    · rw [drop_at l i hi, List.foldl_cons]
      congr 1
      by_cases e : top ≤ r ∧ r < bottom ∧ left ≤ c ∧ c < right
      · rw [if_pos e]
      · rw [if_neg e]; unfold stp
        rw [if_neg]
        rintro ⟨_, hn⟩
        have hh := pcN_reach hpi hn
        have := w1 c hc' hh.1.1 hh.1.2
        have := w2 r hr' hh.2.1 hh.2.2
        omega
    · rw [show k + (N2 + N1 + 1) = (k + N2) + N1 + 1 by omega, stroke_Owners.l0, if_pos (by omega), if_pos (by omega), if_pos (by omega), rdp l i hi, e1, Option.bind_some, e2, Option.bind_some]
      dsimp only
      rw [g1, w64_id (n := (i : Int) + 1) (by omega) (by omega), show (i : Int) + 1 = ((i + 1 : Nat) : Int) by omega]
      exact g2 k
/-- What the program's Owners comes to. -/
theorem owners_eq {l : List Pc} (hl : l.length ≤ 9223372036854775807) (w h : Int) : ∃ N, ∀ k, N ≤ k →
    (if (1 ≤ w ∧ w ≤ 256 ∧ 1 ≤ h ∧ h ≤ 256) ∧ ∀ p ∈ l, pcR p then ∃ o, stroke_Owners.f k l w h = some (o, 0) ∧ Frm (4 * w).toNat (4 * h).toNat o (fun r c => ownS l (sm c) (sm r)) else stroke_Owners.f k l w h = some ([], 1)) := by
  by_cases hb : 1 ≤ w ∧ w ≤ 256 ∧ 1 ≤ h ∧ h ≤ 256
  · by_cases hp : ∀ p ∈ l, pcR p
    · obtain ⟨N, o, h1, h2⟩ := own_all (cols := (4 * w).toNat) (rows := (4 * h).toNat) (by omega) (by omega) hl hp l.length 0 _ _ (by omega) (Frm.frmzero _ _)
      refine ⟨N + l.length + 2, fun k hk => ?_⟩
      rw [if_pos ⟨hb, hp⟩]
      refine ⟨o, ?_, h1.frmcong (fun r c _ _ => by rw [List.drop_zero]; rfl)⟩
      unfold stroke_Owners.f
      rw [if_neg (by unfold mn; omega), if_neg (by unfold mx; omega), piece26_eq hl k (by omega), Option.bind_some, decide_eq_false (fun ⟨p, a, b⟩ => b (hp p a))]
      obtain ⟨k, rfl⟩ : ∃ m, k = m + N + 1 := ⟨k - N - 1, by omega⟩
      have hm : (4 * w).toNat * (4 * h).toNat ≤ 1024 * 1024 := Nat.mul_le_mul (by omega) (by omega)
      have e1 : (4 * w) = (((4 * w).toNat : Nat) : Int) := by omega
      have e2 : (4 * h) = (((4 * h).toNat : Nat) : Int) := by omega
      rw [stroke_Owners.j0, if_neg (by simp), w64_id (n := 4 * w) (by omega) (by omega), w64_id (n := 4 * h) (by omega) (by omega), e1, e2]
      generalize (4 * w).toNat = C at *
      generalize (4 * h).toNat = R at *
      rw [show (C : Int) * (R : Int) = ((C * R : Nat) : Int) by simp, w64_id (by omega) (by omega), if_pos (by omega), Int.toNat_natCast, if_pos (by omega)]
      have := h2 k
      exact this
    · refine ⟨l.length + 2, fun k hk => ?_⟩
      rw [if_neg (fun g => hp g.2)]
      unfold stroke_Owners.f
      have hx : ∃ p ∈ l, ¬ pcR p := by
        by_cases g : ∃ p ∈ l, ¬ pcR p
        · exact g
        · exfalso; apply hp; intro p a
          by_cases c : pcR p
          · exact c
          · exact absurd ⟨p, a, c⟩ g
      rw [if_neg (by unfold mn; omega), if_neg (by unfold mx; omega), piece26_eq hl k (by omega), Option.bind_some, decide_eq_true hx]
      obtain ⟨k, rfl⟩ : ∃ m, k = m + 1 := ⟨k - 1, by omega⟩
      rw [stroke_Owners.j0, if_pos rfl]
  · refine ⟨2 + l.length, fun k hk => ?_⟩
    rw [if_neg (fun g => hb g.1)]
    unfold stroke_Owners.f
    have hj : stroke_Owners.j0 k l w h true = some ([], 1) := by
      obtain ⟨k, rfl⟩ : ∃ m, k = m + 1 := ⟨k - 1, by omega⟩
      rw [stroke_Owners.j0, if_pos rfl]
    by_cases g1 : mn w h < 1
    · rw [if_pos g1]; exact hj
    · rw [if_neg g1]
      by_cases g2 : mx w h > 256
      · rw [if_pos g2]; exact hj
      · exfalso; apply hb; unfold mn at g1; unfold mx at g2; omega
/-- A piece, as the document's. -/
def toR (p : Pc) : S27 := ⟨⟨p.f0.f0, p.f0.f1⟩, ⟨p.f1.f0, p.f1.f1⟩, p.f2, p.f3⟩
theorem rdr (l : List Pc) (i : Nat) (h : i < l.length) : rd_T27 (l.map toR) (i : Int) = toR l[i] := by
  unfold rd_T27; rw [Int.toNat_natCast]; simp [List.getD_eq_getElem?_getD, h]
theorem ownerR_l0 {l : List Pc} (hl : l.length ≤ 1000) (hp : ∀ p ∈ l, pcR p) {x y : Int} (hi : Inn x y) : ∀ (d i k : Nat) (b : Int), d + i = l.length → 1500001 + d ≤ k → celluloidref18_Owner.l0 k (l.map toR) x y b (i : Int) = some ((l.drop i).foldl (stp x y) b) := by
  intro d
  induction d with
  | zero =>
    intro i k b h hk
    obtain ⟨k, rfl⟩ : ∃ m, k = m + 1 := ⟨k - 1, by omega⟩
    rw [celluloidref18_Owner.l0, if_neg (by simp; omega), List.drop_of_length_le (by omega)]; rfl
  | succ d ih =>
    intro i k b h hk
    obtain ⟨k, rfl⟩ : ∃ m, k = m + 1 := ⟨k - 1, by omega⟩
    have hpi := hp l[i] (List.getElem_mem _)
    rw [celluloidref18_Owner.l0, if_pos (by simp; omega), if_pos (by omega), rdr l i (by omega), drop_at l i (by omega), List.foldl_cons, w64_id (n := (i : Int) + 1) (by omega) (by omega), show (i : Int) + 1 = ((i + 1 : Nat) : Int) by omega]
    unfold toR
    dsimp only
    rw [nearR_eq (h := hpi) hi k (by omega), Option.bind_some]
    unfold stp
    by_cases g : l[i].f2 > b
    · rw [if_pos g]
      by_cases g2 : nP l[i].f0.f0 l[i].f0.f1 l[i].f1.f0 l[i].f1.f1 l[i].f3 x y
      · rw [if_pos (decide_eq_true g2), if_pos (⟨by omega, g2⟩ : b < l[i].f2 ∧ pcN l[i] x y)]
        exact ih (i + 1) k _ (by omega) (by omega)
      · rw [if_neg (by simpa using g2), if_neg (fun hh => g2 hh.2)]
        exact ih (i + 1) k _ (by omega) (by omega)
    · rw [if_neg g, if_neg (fun hh => g hh.1)]
      exact ih (i + 1) k _ (by omega) (by omega)
theorem ownerR_eq {l : List Pc} (hl : l.length ≤ 1000) (hp : ∀ p ∈ l, pcR p) {x y : Int} (hi : Inn x y) (k : Nat) (hk : 1501001 ≤ k) : celluloidref18_Owner.f k (l.map toR) x y = some (ownS l x y) := by
  unfold celluloidref18_Owner.f
  have := ownerR_l0 hl hp hi l.length 0 k 0 (by omega) (by omega)
  rw [List.drop_zero] at this
  exact this
end Go.Proofs.Ytnofihkmgedbfaa.P
namespace Go.Proofs.Ytnofihkmgedbfaa.Pure
open Go.RowKit Go.Proofs.Ytnofihkmgedbfaa.P Go.Proofs.YtnofihkmgedbfaaW.PrintWords Go.Proofs.YtnofihkmgedbfaaW.PrintLast Go.Proofs.YtnofihkmgedbfaaW.PrintMore
theorem law_l0 {l : List Pc} (hl : l.length ≤ 1000) (w h : Int) (o : List Int) (e : Int) : ∀ (d i k : Nat) (b : Bool), d + i = l.length → 12 ≤ k →
    celluloidlaw18_StrokeOwns.l0 (k + d + 1) w h o e ((l.take i).map toR) b l (l.length : Int) (i : Int) =
      (if w < 1 then celluloidlaw18_StrokeOwns.j2 k w h o e (l.map toR) true else if w > 256 then celluloidlaw18_StrokeOwns.j2 k w h o e (l.map toR) true else if h < 1 then celluloidlaw18_StrokeOwns.j2 k w h o e (l.map toR) true else if h > 256 then celluloidlaw18_StrokeOwns.j2 k w h o e (l.map toR) true else celluloidlaw18_StrokeOwns.j2 k w h o e (l.map toR) (!(b && allR (l.drop i)))) := by
  intro d
  induction d with
  | zero =>
    intro i k b hd hk
    rw [celluloidlaw18_StrokeOwns.l0, if_neg (by omega), List.take_of_length_le (by omega), List.drop_of_length_le (by omega), show allR [] = true from rfl, Bool.and_true]
  | succ d ih =>
    intro i k b hd hk
    have hi : i < l.length := by omega
    rw [show k + (d + 1) + 1 = k + d + 1 + 1 by omega, celluloidlaw18_StrokeOwns.l0, if_pos (by omega), if_pos (by omega), if_pos (by omega), rdp l i hi]
    unfold celluloidlaw18_ref.f
    rw [Option.bind_some, if_pos (by simp; omega), Option.bind_some]
    dsimp only
    have e1 : (l.take i).map toR ++ [⟨⟨l[i].f0.f0, l[i].f0.f1⟩, ⟨l[i].f1.f0, l[i].f1.f1⟩, l[i].f2, l[i].f3⟩] = (l.take (i + 1)).map toR := by
      rw [List.take_succ_eq_append_getElem hi, List.map_append]; rfl
    rw [e1, w64_id (n := (i : Int) + 1) (by omega) (by omega), show (i : Int) + 1 = ((i + 1 : Nat) : Int) by omega, drop_at l i hi]
    cases b with
    | false =>
      rw [if_neg (by simp), ih (i + 1) k false (by omega) hk]; simp
    | true =>
      rw [if_pos rfl, Option.bind_some]
      dsimp only
      rw [pieceR_eq _ _ _ _ _ _ (k + d + 1) (by omega), Option.bind_some, ih (i + 1) k _ (by omega) hk]
      have e2 : (decide (PieceR l[i].f0.f0 l[i].f0.f1 l[i].f1.f0 l[i].f1.f1 l[i].f2 l[i].f3) && allR (l.drop (i + 1))) = (true && allR (l[i] :: l.drop (i + 1))) := by
        unfold allR; rw [List.all_cons, Bool.true_and]; rfl
      rw [e2]
theorem law_l2 {l : List Pc} (hl : l.length ≤ 1000) (hp : ∀ p ∈ l, pcR p) {w h : Int} (hw : 1 ≤ w ∧ w ≤ 256) (hh : 1 ≤ h ∧ h ≤ 256) {o : List Int} (ho : Frm (4 * w).toNat (4 * h).toNat o (fun r c => ownS l (sm c) (sm r))) {r : Nat} (hr : r < (4 * h).toNat) :
    ∀ (d c k : Nat), d + c = (4 * w).toNat → 1501001 ≤ k → celluloidlaw18_StrokeOwns.l2 (k + d + 1) w h o (l.map toR) (r : Int) (c : Int) = celluloidlaw18_StrokeOwns.l1 k w h o (l.map toR) ((r : Int) + 1) := by
  intro d
  induction d with
  | zero =>
    intro c k hd hk
    rw [celluloidlaw18_StrokeOwns.l2, w64_id (n := 4 * w) (by omega) (by omega), if_neg (by omega), w64_id (by omega) (by omega)]
  | succ d ih =>
    intro c k hd hk
    have hc : c < (4 * w).toNat := by omega
    have hlt := place_lt (cols := (4 * w).toNat) (rows := (4 * h).toNat) hr hc
    have hm : (4 * w).toNat * (4 * h).toNat ≤ 1024 * 1024 := Nat.mul_le_mul (by omega) (by omega)
    have hv := ho.2 r c hr hc
    have hlen := ho.1
    have e0 : wrap64 (4 * w) = (((4 * w).toNat : Nat) : Int) := by rw [w64_id (by omega) (by omega)]; omega
    have e1 : wrap64 (wrap64 (wrap64 (4 * w) * (r : Int)) + (c : Int)) = ((r * (4 * w).toNat + c : Nat) : Int) := by
      rw [e0]
      have : (((4 * w).toNat : Nat) : Int) * (r : Int) = ((r * (4 * w).toNat : Nat) : Int) := by rw [Int.mul_comm]; simp
      rw [this, w64_id (n := ((r * (4 * w).toNat : Nat) : Int)) (by omega) (by omega), w64_id (by omega) (by omega)]; omega
    have e2 : wrap64 (wrap64 (16 * (c : Int)) + 7) = sm c := by rw [w64_id (n := 16 * (c : Int)) (by omega) (by omega), w64_id (by omega) (by omega)]; rfl
    have e3 : wrap64 (wrap64 (16 * (r : Int)) + 7) = sm r := by rw [w64_id (n := 16 * (r : Int)) (by omega) (by omega), w64_id (by omega) (by omega)]; rfl
    have hi : Inn (sm c) (sm r) := by have := sm_in (n := c) (by omega); have := sm_in (n := r) (by omega); unfold Inn; omega
    rw [show k + (d + 1) + 1 = k + d + 1 + 1 by omega, celluloidlaw18_StrokeOwns.l2, e1, e2, e3, e0, if_pos (by omega), if_pos (by omega), if_pos (by omega), ownerR_eq hl hp hi _ (by omega), Option.bind_some, hv, if_pos rfl, w64_id (n := (c : Int) + 1) (by omega) (by omega), show (c : Int) + 1 = ((c + 1 : Nat) : Int) by omega]
    exact ih (c + 1) k (by omega) hk
theorem law_l1 {l : List Pc} (hl : l.length ≤ 1000) (hp : ∀ p ∈ l, pcR p) {w h : Int} (hw : 1 ≤ w ∧ w ≤ 256) (hh : 1 ≤ h ∧ h ≤ 256) {o : List Int} (ho : Frm (4 * w).toNat (4 * h).toNat o (fun r c => ownS l (sm c) (sm r))) :
    ∀ (d r : Nat), d + r = (4 * h).toNat → ∃ N, ∀ k, 1501001 ≤ k → celluloidlaw18_StrokeOwns.l1 (k + N) w h o (l.map toR) (r : Int) = some true := by
  intro d
  induction d with
  | zero =>
    intro r hd
    refine ⟨1, fun k hk => ?_⟩
    rw [celluloidlaw18_StrokeOwns.l1, w64_id (n := 4 * h) (by omega) (by omega), if_neg (by omega), awake_eq k (by omega)]; rfl
  | succ d ih =>
    intro r hd
    obtain ⟨N, hN⟩ := ih (r + 1) (by omega)
    refine ⟨N + (4 * w).toNat + 1 + 1, fun k hk => ?_⟩
    rw [show k + (N + (4 * w).toNat + 1 + 1) = (k + N) + (4 * w).toNat + 1 + 1 by omega, celluloidlaw18_StrokeOwns.l1, w64_id (n := 4 * h) (by omega) (by omega), if_pos (by omega)]
    have := law_l2 hl hp hw hh ho (r := r) (by omega) (4 * w).toNat 0 (k + N) (by omega) (by omega)
    rw [show ((0 : Nat) : Int) = 0 from rfl] at this
    rw [this, show (r : Int) + 1 = ((r + 1 : Nat) : Int) by omega]
    exact hN k hk
theorem StrokeOwns : celluloidlaw18_StrokeOwns.Pure := by
  intro l w h hl _ _
  have hlm : l.length ≤ 9223372036854775807 := by have := hl.1; unfold maxLen at this; omega
  obtain ⟨N, hN⟩ := owners_eq hlm w h
  have yes : ∀ k, 201 ≤ k → celluloidlaw18_StrokeOwns.j0 k l w h true = some true := by
    intro k hk
    obtain ⟨k, rfl⟩ : ∃ m, k = m + 1 := ⟨k - 1, by omega⟩
    rw [celluloidlaw18_StrokeOwns.j0, if_pos rfl, awake_eq k (by omega)]; rfl
  have main : l.length ≤ 30 → ∃ k, 201 ≤ k ∧ celluloidlaw18_StrokeOwns.j0 k l w h false = some true := by
    intro h30
    have fin : ∀ (o : List Int) (e : Int) (N1 : Nat), (∀ k, 1501001 + N ≤ k → stroke_Owners.f k l w h = some (o, e)) →
        (∀ k, 1501001 ≤ k → (if w < 1 then celluloidlaw18_StrokeOwns.j2 (k + N1) w h o e (l.map toR) true else if w > 256 then celluloidlaw18_StrokeOwns.j2 (k + N1) w h o e (l.map toR) true else if h < 1 then celluloidlaw18_StrokeOwns.j2 (k + N1) w h o e (l.map toR) true else if h > 256 then celluloidlaw18_StrokeOwns.j2 (k + N1) w h o e (l.map toR) true else celluloidlaw18_StrokeOwns.j2 (k + N1) w h o e (l.map toR) (!(true && allR (l.drop 0)))) = some true) →
        ∃ k, 201 ≤ k ∧ celluloidlaw18_StrokeOwns.j0 k l w h false = some true := by
      intro o e N1 a b
      refine ⟨1501001 + N + N1 + l.length + 1 + 1, by omega, ?_⟩
      rw [celluloidlaw18_StrokeOwns.j0, if_neg (by simp), a _ (by omega), Option.bind_some]
      dsimp only
      have := law_l0 (l := l) (by omega) w h o e l.length 0 (1501001 + N + N1) true (by omega) (by omega)
      rw [List.take_zero, List.map_nil, show ((0 : Nat) : Int) = 0 from rfl] at this
      rw [this]
      exact b (1501001 + N) (by omega)
    have bad : ∀ k, 201 ≤ k → celluloidlaw18_StrokeOwns.j2 (k + 1) w h [] 1 (l.map toR) true = some true := by
      intro k hk
      rw [celluloidlaw18_StrokeOwns.j2, if_pos rfl, if_pos (by simp), if_pos rfl, awake_eq k (by omega)]; rfl
    by_cases g : (1 ≤ w ∧ w ≤ 256 ∧ 1 ≤ h ∧ h ≤ 256) ∧ ∀ p ∈ l, pcR p
    · obtain ⟨o, ho⟩ : ∃ o, (∀ k, N ≤ k → stroke_Owners.f k l w h = some (o, 0)) ∧ Frm (4 * w).toNat (4 * h).toNat o (fun r c => ownS l (sm c) (sm r)) := by
        have h0 := hN N (Nat.le_refl _)
        rw [if_pos g] at h0
        obtain ⟨o, h1, h2⟩ := h0
        exact ⟨o, fun k hk => at_rounds (stroke_Owners.mono l w h) hk h1, h2⟩
      obtain ⟨N1, hN1⟩ := law_l1 (l := l) (by omega) g.2 (w := w) (h := h) ⟨g.1.1, g.1.2.1⟩ g.1.2.2 ho.2 (4 * h).toNat 0 (by omega)
      refine fin o 0 (N1 + 1 + 1) (fun k hk => ho.1 k (by omega)) (fun k hk => ?_)
      rw [if_neg (by omega), if_neg (by omega), if_neg (by omega), if_neg (by omega), List.drop_zero, allR_yes g.2, show k + (N1 + 1 + 1) = k + N1 + 1 + 1 by omega, celluloidlaw18_StrokeOwns.j2, if_neg (by simp), if_pos rfl]
      have hlen := ho.2.1
      have e1 : ((o.length : Int) != wrap64 (wrap64 (16 * w) * h)) = false := by
        have hb1 : 0 ≤ w * h := Int.mul_nonneg (by omega) (by omega)
        have hb2 : w * h ≤ 256 * 256 := Int.mul_le_mul (by omega) (by omega) (by omega) (by omega)
        have e3 : 16 * w * h = 16 * (w * h) := Int.mul_assoc _ _ _
        rw [w64_id (n := 16 * w) (by omega) (by omega), e3, w64_id (by omega) (by omega), hlen]
        have e2 : (((4 * w).toNat * (4 * h).toNat : Nat) : Int) = 16 * (w * h) := by
          rw [Int.natCast_mul, Int.toNat_of_nonneg (by omega), Int.toNat_of_nonneg (by omega)]; grind
        rw [e2]; simp
      rw [e1, celluloidlaw18_StrokeOwns.j3, if_neg (by simp)]
      exact hN1 k hk
    · have hO : ∀ k, N ≤ k → stroke_Owners.f k l w h = some ([], 1) := by
        intro k hk
        have := hN k hk
        rw [if_neg g] at this
        exact this
      refine fin [] 1 1 (fun k hk => hO k (by omega)) (fun k hk => ?_)
      have b := bad k (by omega)
      by_cases g1 : w < 1
      · rw [if_pos g1]; exact b
      · rw [if_neg g1]
        by_cases g2 : w > 256
        · rw [if_pos g2]; exact b
        · rw [if_neg g2]
          by_cases g3 : h < 1
          · rw [if_pos g3]; exact b
          · rw [if_neg g3]
            by_cases g4 : h > 256
            · rw [if_pos g4]; exact b
            · rw [if_neg g4, List.drop_zero, allR_no (fun g5 => g ⟨by omega, g5⟩)]; exact b
  by_cases g0 : (l.length : Int) > 30
  · refine ⟨201, ?_⟩
    unfold celluloidlaw18_StrokeOwns.f
    rw [if_pos g0]; exact yes 201 (by omega)
  · obtain ⟨k, hk, hm⟩ := main (by omega)
    refine ⟨k, ?_⟩
    have hy := yes k hk
    unfold celluloidlaw18_StrokeOwns.f
    rw [if_neg g0]
    by_cases g1 : w > 6
    · rw [if_pos g1]
      by_cases g2 : w ≤ 256
      · rw [if_pos g2]; exact hy
      · rw [if_neg g2]
        by_cases g3 : h > 6
        · rw [if_pos g3]
          by_cases g4 : h ≤ 256
          · rw [decide_eq_true g4]; exact hy
          · rw [decide_eq_false g4]; exact hm
        · rw [if_neg g3]; exact hm
    · rw [if_neg g1]
      by_cases g3 : h > 6
      · rw [if_pos g3]
        by_cases g4 : h ≤ 256
        · rw [decide_eq_true g4]; exact hy
        · rw [decide_eq_false g4]; exact hm
      · rw [if_neg g3]; exact hm
end Go.Proofs.Ytnofihkmgedbfaa.Pure
