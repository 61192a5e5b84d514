/- Whether any sample is near any piece is told as the document says. (prune.py) -/
import Derived.Test.YtnofihkmgedbfaaPx1
import Derived.Test.YtnofihkmgedbfaaPx2
import Derived.Test.YtnofihkmgedbfaaPx3
import Derived.Test.YtnofihkmgedbfaaPx7
import Derived.KernelRfl
import Derived.Laws.BitsAllLaws
import Derived.Laws.MathBits
import Derived.Lib.BitFns
import Derived.Test.YtnofihkmgedbfaaSayStrokeNears
namespace Go.Proofs.Ytnofihkmgedbfaa.P
open Go.RowKit Go.Proofs.YtnofihkmgedbfaaW.PrintWords Go.Proofs.YtnofihkmgedbfaaW.PrintLast Go.Proofs.YtnofihkmgedbfaaW.PrintMore
theorem w64_id {n : Int} (h0 : -9223372036854775808 ≤ n) (h1 : n < 9223372036854775808) : wrap64 n = n := by unfold wrap64; omega
structure Digit (u v v1 v0 u1 Q : Int) : Prop where
  hv : v = v1 * 4294967296 + v0
  v0a : 0 ≤ v0
  v0b : v0 < 4294967296
  v1a : 2147483648 ≤ v1
  v1b : v1 < 4294967296
  ua : 0 ≤ u
  ub : u < v
  u1a : 0 ≤ u1
  u1b : u1 < 4294967296
  qa : Q * v ≤ u * 4294967296 + u1
  qb : u * 4294967296 + u1 < Q * v + v
theorem lt_of_mul {a b v : Int} (hv : 0 < v) (h : a * v < b * v) : a < b := by
  rcases Int.lt_or_le a b with h1 | h1
  · exact h1
  · have := Int.mul_le_mul_of_nonneg_right h1 (Int.le_of_lt hv); omega
namespace Digit
variable {u v v1 v0 u1 Q : Int}
theorem vpos (d : Digit u v v1 v0 u1 Q) : 0 < v := by have := d.hv; have := d.v1a; have := d.v0a; omega
theorem q0 (d : Digit u v v1 v0 u1 Q) : 0 ≤ Q := by
  have h := d.qb; have := d.ua; have := d.u1a; have hv := d.vpos
  have : -1 < Q := lt_of_mul hv (by have : (Q + 1) * v = Q * v + v := by rw [Int.add_mul, Int.one_mul]
                                    omega)
  omega
theorem above (d : Digit u v v1 v0 u1 Q) {q : Int} (h : q * v ≤ u * 4294967296 + u1) : q ≤ Q := by
  have : q < Q + 1 := lt_of_mul d.vpos (by have := d.qb; rw [Int.add_mul, Int.one_mul]; omega)
  omega
theorem prod (d : Digit u v v1 v0 u1 Q) {q r : Int} (h : q * v1 + r = u) : q * v = (u - r) * 4294967296 + q * v0 := by
  rw [d.hv, Int.mul_add, ← Int.mul_assoc, show q * v1 = u - r by omega]
/-- It says no: the guess is right. -/
theorem no (d : Digit u v v1 v0 u1 Q) {q r : Int} (h : q * v1 + r = u) (hq : Q ≤ q) (ht : q * v0 ≤ 4294967296 * r + u1) : q = Q := by
  have := d.above (q := q) (by rw [d.prod h]; omega); omega
/-- What is left over is great: the guess is right. -/
theorem out (d : Digit u v v1 v0 u1 Q) {q r : Int} (h : q * v1 + r = u) (hq : Q ≤ q) (hB : q ≤ 4294967296) (hr : 4294967296 ≤ r) : q = Q := by
  refine d.no h hq ?_
  have h0 := d.q0
  have h1 : q * v0 ≤ 4294967296 * v0 := Int.mul_le_mul_of_nonneg_right hB d.v0a
  have := d.v0b; have := d.u1a; omega
end Digit
/-- A digit, out of the division itself. -/
theorem Digit.of {u v v1 v0 u1 : Int} (hv : v = v1 * 4294967296 + v0) (v0a : 0 ≤ v0) (v0b : v0 < 4294967296) (v1a : 2147483648 ≤ v1) (v1b : v1 < 4294967296) (ua : 0 ≤ u) (ub : u < v) (u1a : 0 ≤ u1) (u1b : u1 < 4294967296) :
    Digit u v v1 v0 u1 ((u * 4294967296 + u1) / v) := by
  have h := Int.mul_ediv_add_emod (u * 4294967296 + u1) v
  have hm := Int.emod_nonneg (u * 4294967296 + u1) (show v ≠ 0 by omega)
  have hl := Int.emod_lt_of_pos (u * 4294967296 + u1) (show 0 < v by omega)
  rw [Int.mul_comm] at h
  exact ⟨hv, v0a, v0b, v1a, v1b, ua, ub, u1a, u1b, by omega, by omega⟩
end Go.Proofs.Ytnofihkmgedbfaa.P
namespace Go.Proofs.Ytnofihkmgedbfaa.P
open Go.RowKit Go.Proofs.YtnofihkmgedbfaaW.PrintWords Go.Proofs.YtnofihkmgedbfaaW.PrintLast Go.Proofs.YtnofihkmgedbfaaW.PrintMore
/-- Is it a number of 64 bits? -/
def I64 (x : Int) : Prop := -9223372036854775808 ≤ x ∧ x ≤ 9223372036854775807
instance (x : Int) : Decidable (I64 x) := by unfold I64; infer_instance
theorem mul_bound {a b : Int} {L M : Nat} (ha : a.natAbs ≤ L) (hb : b.natAbs ≤ M) : (a * b).natAbs ≤ L * M := by
  rw [Int.natAbs_mul]; exact Nat.mul_le_mul ha hb
theorem prod_bound {a b : Int} (ha : I64 a) (hb : I64 b) : (a * b).natAbs ≤ 85070591730234615865843651857942052864 := by
  have := mul_bound (a := a) (b := b) (L := 9223372036854775808) (M := 9223372036854775808) (by unfold I64 at ha; omega) (by unfold I64 at hb; omega)
  exact this
theorem times_eq {a b : Int} (ha : I64 a) (hb : I64 b) : fix_times.f a b = some (a * b / 18446744073709551616, a * b % 18446744073709551616) := by
  have hP := prod_bound ha hb
  unfold I64 at ha hb
  have key : ∀ (A B : Int), (A = a ∨ A = a + 18446744073709551616) → (B = b ∨ B = b + 18446744073709551616) → 0 ≤ A → A < 18446744073709551616 → 0 ≤ B → B < 18446744073709551616 →
      A * B / 18446744073709551616 = a * b / 18446744073709551616 + (if A = a then 0 else b) + (if B = b then 0 else a) + (if A = a ∨ B = b then 0 else 18446744073709551616) ∧ A * B % 18446744073709551616 = a * b % 18446744073709551616 := by
    intro A B h1 h2 _ _ _ _
    rcases h1 with rfl | rfl <;> rcases h2 with rfl | rfl
    · simp
    · rw [Int.mul_add, if_pos rfl, if_neg (by omega), if_pos (by simp)]
      generalize A * b = z at *
      omega
    · rw [Int.add_mul, if_neg (by omega), if_pos rfl, if_pos (by simp)]
      generalize a * B = z at *
      omega
    · rw [Int.add_mul, Int.mul_add, Int.mul_add, if_neg (by omega), if_neg (by omega), if_neg (by omega)]
      generalize a * b = z at *
      omega
  unfold fix_times.f bits_Mul64.f
  have wa : IntKind.u64.wrap a = a ∨ IntKind.u64.wrap a = a + 18446744073709551616 := by rw [IntKind.wrap_u64]; omega
  have wb : IntKind.u64.wrap b = b ∨ IntKind.u64.wrap b = b + 18446744073709551616 := by rw [IntKind.wrap_u64]; omega
  have ra : 0 ≤ IntKind.u64.wrap a ∧ IntKind.u64.wrap a < 18446744073709551616 := by rw [IntKind.wrap_u64]; omega
  have rb : 0 ≤ IntKind.u64.wrap b ∧ IntKind.u64.wrap b < 18446744073709551616 := by rw [IntKind.wrap_u64]; omega
  generalize hA : IntKind.u64.wrap a = A at *
  generalize hB : IntKind.u64.wrap b = B at *
  obtain ⟨k1, k2⟩ := key A B wa wb ra.1 ra.2 rb.1 rb.2
  rw [if_pos (by omega)]
  simp only [Option.bind_some]
  rw [k1, k2]
  generalize a * b = P at *
  have hq : -4611686018427387904 ≤ P / 18446744073709551616 ∧ P / 18446744073709551616 ≤ 4611686018427387904 := by omega
  generalize hr : P % 18446744073709551616 = r at *
  generalize P / 18446744073709551616 = q at *
  clear key k1 k2
  by_cases h1 : a < 0
  · have : A = a + 18446744073709551616 := by omega
    rw [if_pos h1, if_neg (show ¬ A = a by omega)]
    by_cases h2 : b < 0
    · rw [if_pos h2, if_neg (show ¬ B = b by omega), if_neg (by omega)]
      congr 2; simp only [IntKind.wrap_u64, wrap64]; omega
    · rw [if_neg h2, if_pos (show B = b by omega), if_pos (by omega)]
      congr 2; simp only [IntKind.wrap_u64, wrap64]; omega
  · rw [if_neg h1, if_pos (show A = a by omega)]
    by_cases h2 : b < 0
    · rw [if_pos h2, if_neg (show ¬ B = b by omega), if_pos (by omega)]
      congr 2; simp only [IntKind.wrap_u64, wrap64]; omega
    · rw [if_neg h2, if_pos (show B = b by omega), if_pos (by omega)]
      congr 2; simp only [wrap64]; omega
end Go.Proofs.Ytnofihkmgedbfaa.P
namespace Go.Proofs.Ytnofihkmgedbfaa.P
open Go.RowKit Go.Proofs.YtnofihkmgedbfaaW.PrintWords Go.Proofs.YtnofihkmgedbfaaW.PrintLast Go.Proofs.YtnofihkmgedbfaaW.PrintMore
/-- How two numbers stand. -/
def cmpS (x y : Int) : Int := if x < y then -1 else if y < x then 1 else 0
theorem below_eq (P Q : Int) : fix_wide_below.f (P / 18446744073709551616) (P % 18446744073709551616) (Q / 18446744073709551616) (Q % 18446744073709551616) = some (decide (P < Q)) := by
  unfold fix_wide_below.f
  by_cases h1 : P / 18446744073709551616 < Q / 18446744073709551616
  · rw [if_pos h1, decide_eq_true (by omega)]
  · rw [if_neg h1]
    by_cases h2 : P / 18446744073709551616 = Q / 18446744073709551616
    · rw [if_pos h2]; congr 1; rw [decide_eq_decide]; omega
    · rw [if_neg h2, decide_eq_false (by omega)]
theorem compare_eq {a b c d : Int} (ha : I64 a) (hb : I64 b) (hc : I64 c) (hd : I64 d) : fix_Compare.f a b c d = some (cmpS (a * b) (c * d)) := by
  unfold fix_Compare.f cmpS
  rw [times_eq ha hb, times_eq hc hd]
  simp only [Option.bind_some]
  rw [below_eq, below_eq]
  simp only [Option.bind_some, decide_eq_true_eq]
  by_cases h1 : a * b < c * d
  · rw [if_pos h1, if_pos h1]
  · rw [if_neg h1, if_neg h1]
    by_cases h2 : c * d < a * b
    · rw [if_pos h2, if_pos h2]
    · rw [if_neg h2, if_neg h2]
end Go.Proofs.Ytnofihkmgedbfaa.P
namespace Go.Proofs.Ytnofihkmgedbfaa.P
open Go.RowKit Go.Proofs.YtnofihkmgedbfaaW.PrintWords Go.Proofs.YtnofihkmgedbfaaW.PrintLast Go.Proofs.YtnofihkmgedbfaaW.PrintMore
/-- The number that a list of digits tells, the lowest first. -/
def val : List Int → Int
  | [] => 0
  | d :: l => d + 65536 * val l
/-- All of them are digits. -/
def Dig (l : List Int) : Prop := ∀ j, 0 ≤ rd l (j : Nat) ∧ rd l (j : Nat) < 65536
theorem rd_nil (j : Nat) : rd [] (j : Int) = 0 := by simp [rd]
theorem rd_zero (d : Int) (l : List Int) : rd (d :: l) ((0 : Nat) : Int) = d := by simp [rd]
theorem rd_succ (d : Int) (l : List Int) (j : Nat) : rd (d :: l) ((j + 1 : Nat) : Int) = rd l (j : Int) := by simp [rd]
theorem rd_drop (l : List Int) (i j : Nat) : rd (l.drop i) (j : Int) = rd l ((i + j : Nat) : Int) := by
  unfold rd; rw [Int.toNat_natCast, Int.toNat_natCast]; simp [List.getD_eq_getElem?_getD]
theorem rd_set (l : List Int) (i j : Nat) (x : Int) : rd (l.set i x) (j : Int) = if i = j ∧ j < l.length then x else rd l (j : Int) := by
  unfold rd
  simp only [Int.toNat_natCast, List.getD_eq_getElem?_getD, List.getElem?_set]
  by_cases h : i = j
  · subst h
    by_cases h2 : i < l.length
    · simp [h2]
    · simp [h2]
  · simp [h]
theorem Dig.nil : Dig [] := by intro j; rw [rd_nil]; omega
theorem Dig.drop {l : List Int} (h : Dig l) (i : Nat) : Dig (l.drop i) := by intro j; rw [rd_drop]; exact h _
theorem Dig.take {l : List Int} (h : Dig l) (i : Nat) : Dig (l.take i) := by
  intro j
  have := h j
  unfold rd at this ⊢
  simp only [Int.toNat_natCast, List.getD_eq_getElem?_getD, List.getElem?_take] at this ⊢
  split
  · exact this
  · simp
theorem Dig.set {l : List Int} (h : Dig l) (i : Nat) {x : Int} (h0 : 0 ≤ x) (h1 : x < 65536) : Dig (l.set i x) := by
  intro j; rw [rd_set]; split
  · exact ⟨h0, h1⟩
  · exact h j
theorem Dig.cons {d : Int} {l : List Int} (h0 : 0 ≤ d) (h1 : d < 65536) (h : Dig l) : Dig (d :: l) := by
  intro j
  cases j with
  | zero => rw [rd_zero]; exact ⟨h0, h1⟩
  | succ j => rw [rd_succ]; exact h j
theorem Dig.tail {d : Int} {l : List Int} (h : Dig (d :: l)) : Dig l := by
  intro j; have := h (j + 1); rwa [rd_succ] at this
theorem Dig.head {d : Int} {l : List Int} (h : Dig (d :: l)) : 0 ≤ d ∧ d < 65536 := by
  have := h 0; rwa [rd_zero] at this
theorem Dig.zeros (n : Nat) : Dig (List.replicate n 0) := by
  intro j
  have : rd (List.replicate n 0) (j : Int) = 0 := by
    unfold rd; simp only [Int.toNat_natCast, List.getD_eq_getElem?_getD, List.getElem?_replicate]; split <;> simp
  omega
theorem val_nonneg : ∀ {l : List Int}, Dig l → 0 ≤ val l := by
  intro l
  induction l with
  | nil => intro _; simp [val]
  | cons d l ih => intro h; have := ih h.tail; have := h.head; simp only [val]; omega
theorem val_zeros (n : Nat) : val (List.replicate n 0) = 0 := by
  induction n with
  | zero => rfl
  | succ n ih => rw [List.replicate_succ]; simp only [val]; omega
/-- A place's worth. -/
def B (n : Nat) : Int := 65536 ^ n
theorem B_zero : B 0 = 1 := rfl
theorem B_succ (n : Nat) : B (n + 1) = 65536 * B n := by unfold B; rw [Int.pow_succ]; omega
theorem B_pos (n : Nat) : 0 < B n := by
  induction n with
  | zero => decide
  | succ n ih => rw [B_succ]; omega
theorem val_lt : ∀ {l : List Int}, Dig l → val l < B l.length := by
  intro l
  induction l with
  | nil => intro _; decide
  | cons d l ih => intro h; have := ih h.tail; have := h.head; simp only [val, List.length_cons]; rw [B_succ]; omega
theorem val_drop (l : List Int) (i : Nat) : val (l.drop i) = rd l (i : Int) + 65536 * val (l.drop (i + 1)) := by
  induction l generalizing i with
  | nil => simp [val, rd_nil]
  | cons d l ih =>
    cases i with
    | zero => rw [rd_zero]; simp [val]
    | succ i => rw [rd_succ]; exact ih i
theorem val_take (l : List Int) (i : Nat) : val l = val (l.take i) + B i * val (l.drop i) := by
  induction l generalizing i with
  | nil => simp [val]
  | cons d l ih =>
    cases i with
    | zero => simp [val, B]
    | succ i =>
      have := ih i
      simp only [List.take_succ_cons, List.drop_succ_cons, val]
      rw [B_succ]
      grind
theorem val_set (l : List Int) (i : Nat) (x : Int) (h : i < l.length) : val (l.set i x) = val l + B i * (x - rd l (i : Int)) := by
  induction l generalizing i with
  | nil => simp at h
  | cons d l ih =>
    cases i with
    | zero => rw [rd_zero]; simp only [List.set_cons_zero, val, B_zero]; omega
    | succ i =>
      rw [rd_succ]
      simp only [List.set_cons_succ, val]
      rw [ih i (by simpa using h), B_succ]
      grind
theorem val_take_lt {l : List Int} (h : Dig l) (i : Nat) : val (l.take i) < B i := by
  by_cases hi : i ≤ l.length
  · have := val_lt (h.take i); rwa [List.length_take, Nat.min_eq_left hi] at this
  · rw [List.take_of_length_le (by omega)]
    refine Int.lt_of_lt_of_le (val_lt h) ?_
    have : ∀ n m, n ≤ m → B n ≤ B m := by
      intro n m hnm
      induction hnm with
      | refl => omega
      | step _ ih => rw [B_succ]; have := B_pos n; omega
    exact this _ _ (by omega)
def digs : Nat → Nat → List Int
  | 0, _ => []
  | m + 1, n => ((n % 65536 : Nat) : Int) :: digs m (n / 65536)
theorem digs_len (m n : Nat) : (digs m n).length = m := by
  induction m generalizing n with
  | zero => rfl
  | succ m ih => simp [digs, ih]
theorem digs_dig (m n : Nat) : Dig (digs m n) := by
  induction m generalizing n with
  | zero => exact Dig.nil
  | succ m ih => exact Dig.cons (by omega) (by omega) (ih _)
theorem digs_val (m n : Nat) (h : n < 65536 ^ m) : val (digs m n) = n := by
  induction m generalizing n with
  | zero => simp at h; subst h; rfl
  | succ m ih =>
    have : n / 65536 < 65536 ^ m := by rw [Nat.div_lt_iff_lt_mul (by omega)]; rwa [Nat.pow_succ] at h
    simp only [digs, val]
    rw [ih _ this]
    omega
theorem digits_l0 (b : Bool) : ∀ (d i k : Nat) (x : Int) (acc : List Int), d + i = 5 → acc.length = i → -9223372036854775808 ≤ x → x ≤ 9223372036854775807 → d < k →
    celluloidref01_digits.l0 k x b acc (i : Int) = some (acc ++ digs d x.natAbs, b) := by
  intro d
  induction d with
  | zero =>
    intro i k x acc h1 h2 h3 h4 hk
    obtain ⟨k, rfl⟩ : ∃ m, k = m + 1 := ⟨k - 1, by omega⟩
    simp only [celluloidref01_digits.l0]
    rw [if_neg (by omega)]; simp [digs]
  | succ d ih =>
    intro i k x acc h1 h2 h3 h4 hk
    obtain ⟨k, rfl⟩ : ∃ m, k = m + 1 := ⟨k - 1, by omega⟩
    have hd := Int.tdiv_mul_add_tmod x 65536
    have e2 : Int.tdiv x 65536 = if x < 0 then -((x.natAbs / 65536 : Nat) : Int) else ((x.natAbs / 65536 : Nat) : Int) := by
      by_cases h : x < 0
      · rw [if_pos h]
        have : x = -((x.natAbs : Nat) : Int) := by omega
        rw [this, Int.neg_tdiv, Int.natAbs_neg, Int.natAbs_natCast, Int.tdiv_eq_ediv_of_nonneg (by omega), Int.natCast_ediv]; rfl
      · rw [if_neg h, Int.tdiv_eq_ediv_of_nonneg (by omega)]; omega
    simp only [celluloidref01_digits.l0]
    rw [if_pos (by omega), w64_id (n := (i : Int) + 1) (by omega) (by omega)]
    have e3 : (i : Int) + 1 = ((i + 1 : Nat) : Int) := by omega
    have e4 : wrap64 (Int.tdiv x 65536) = Int.tdiv x 65536 := w64_id (by rw [e2]; split <;> omega) (by rw [e2]; split <;> omega)
    have e5 : (Int.tdiv x 65536).natAbs = x.natAbs / 65536 := by rw [e2]; split <;> omega
    have go : ∀ y : Int, y = ((x.natAbs % 65536 : Nat) : Int) → celluloidref01_digits.l0 k (Int.tdiv x 65536) b (acc ++ [y]) ((i + 1 : Nat) : Int) = some (acc ++ digs (d + 1) x.natAbs, b) := by
      intro y hy
      rw [ih (i + 1) k _ (acc ++ [y]) (by omega) (by simp [h2]) (by rw [e2]; split <;> omega) (by rw [e2]; split <;> omega) (by omega), e5]
      simp [digs, hy]
    rw [e3, e4]
    by_cases h : Int.tmod x 65536 < 0
    · rw [if_pos h, if_pos (by omega)]
      have hm : wrap64 (-(Int.tmod x 65536)) = ((x.natAbs % 65536 : Nat) : Int) := by
        have h6 : Int.tmod x 65536 = x - Int.tdiv x 65536 * 65536 := by omega
        have hx : x < 0 := by
          rcases Int.lt_or_le x 0 with hx | hx
          · exact hx
          · rw [e2, if_neg (by omega)] at h6; omega
        rw [e2, if_pos hx] at h6
        rw [h6]; unfold wrap64; omega
      exact go _ hm
    · rw [if_neg h, if_pos (by omega)]
      have hm : Int.tmod x 65536 = ((x.natAbs % 65536 : Nat) : Int) := by
        have h6 : Int.tmod x 65536 = x - Int.tdiv x 65536 * 65536 := by omega
        by_cases hx : x < 0
        · rw [e2, if_pos hx] at h6; omega
        · rw [e2, if_neg hx] at h6; omega
      exact go _ hm
theorem digits_eq {a : Int} (ha : I64 a) (k : Nat) (hk : 10 ≤ k) : celluloidref01_digits.f k a = some (digs 5 a.natAbs, decide (a < 0)) := by
  unfold I64 at ha
  unfold celluloidref01_digits.f
  have := digits_l0 (decide (a < 0)) 5 0 k a [] (by omega) rfl (by omega) (by omega) (by omega)
  exact this
theorem val_eq_zero {l : List Int} (h : Dig l) : val l = 0 ↔ ∀ j : Nat, rd l (j : Int) = 0 := by
  induction l with
  | nil => simp [val, rd_nil]
  | cons d l ih =>
    have h1 := h.head; have h2 := val_nonneg h.tail
    simp only [val]
    constructor
    · intro e j
      cases j with
      | zero => rw [rd_zero]; omega
      | succ j => rw [rd_succ]; exact (ih h.tail).mp (by omega) j
    · intro e
      have e0 := e 0; rw [rd_zero] at e0
      have := (ih h.tail).mpr (fun j => by have := e (j + 1); rwa [rd_succ] at this)
      omega
theorem nought_l0 {l : List Int} (hd : Dig l) (hl : l.length ≤ 1000) : ∀ (d i k : Nat), d + i = l.length → d < k → celluloidref01_nought.l0 k l (i : Int) = some (decide (val (l.drop i) = 0)) := by
  intro d
  induction d with
  | zero =>
    intro i k h hk
    obtain ⟨k, rfl⟩ : ∃ m, k = m + 1 := ⟨k - 1, by omega⟩
    simp only [celluloidref01_nought.l0]
    rw [if_neg (by omega), List.drop_of_length_le (by omega)]; rfl
  | succ d ih =>
    intro i k h hk
    obtain ⟨k, rfl⟩ : ∃ m, k = m + 1 := ⟨k - 1, by omega⟩
    simp only [celluloidref01_nought.l0]
    have hv := val_drop l i
    have h1 := hd i
    have h2 := val_nonneg (hd.drop (i + 1))
    rw [if_pos (by omega), if_pos (by omega), w64_id (by omega) (by omega), show (i : Int) + 1 = ((i + 1 : Nat) : Int) by omega]
    by_cases h0 : rd l (i : Int) = 0
    · rw [if_pos h0, ih (i + 1) k (by omega) (by omega)]
      congr 1; rw [decide_eq_decide]; omega
    · rw [if_neg h0, decide_eq_false (by omega)]
theorem nought_eq {l : List Int} (hd : Dig l) (hl : l.length ≤ 1000) (k : Nat) (hk : 2000 ≤ k) : celluloidref01_nought.f k l = some (decide (val l = 0)) := by
  unfold celluloidref01_nought.f
  exact nought_l0 hd hl l.length 0 k (by omega) (by omega)
theorem times_l1 {a b : List Int} (ha : Dig a) (hb : Dig b) (hla : a.length ≤ 1000) (hlb : b.length ≤ 1000) {i : Nat} (hi : i < a.length) :
    ∀ (d t k : Nat) (l : List Int) (left : Int), d + t = b.length → l.length = a.length + b.length → Dig l → (∀ j, i + b.length ≤ j → rd l (j : Nat) = 0) → 0 ≤ left → left < 65536 →
      ∃ l', celluloidref01_times.l1 (k + d + 1) a b l (i : Int) left (t : Int) = celluloidref01_times.l0 k a b l' ((i + 1 : Nat) : Int) ∧ l'.length = a.length + b.length ∧ Dig l' ∧ (∀ j, i + 1 + b.length ≤ j → rd l' (j : Nat) = 0) ∧
        val l' = val l + B (i + t) * (left + rd a (i : Int) * val (b.drop t)) := by
  intro d
  induction d with
  | zero =>
    intro t k l left h hl hd hz h0 h1
    have ht : t = b.length := by omega
    subst ht
    have hz0 := hz (i + b.length) (by omega)
    refine ⟨l.set (i + b.length) left, ?_, by simp [hl], hd.set _ h0 h1, ?_, ?_⟩
    · simp only [celluloidref01_times.l1]
      rw [if_neg (by omega), w64_id (n := (i : Int) + (b.length : Int)) (by omega) (by omega), show (i : Int) + (b.length : Int) = ((i + b.length : Nat) : Int) by omega,
        if_pos (by omega), if_pos (by omega), hz0, Int.zero_add, w64_id (n := left) (by omega) (by omega), w64_id (n := (i : Int) + 1) (by omega) (by omega), show (i : Int) + 1 = ((i + 1 : Nat) : Int) by omega]
      rfl
    · intro j hj
      rw [rd_set, if_neg (by omega)]; exact hz j (by omega)
    · rw [val_set _ _ _ (by omega), hz0, List.drop_of_length_le (Nat.le_refl _)]
      simp [val]
  | succ d ih =>
    intro t k l left h hl hd hz h0 h1
    have d1 := hd (i + t); have d2 := ha i; have d3 := hb t
    have hp : 0 ≤ rd a (i : Int) * rd b (t : Int) ∧ rd a (i : Int) * rd b (t : Int) ≤ 4294836225 := by
      refine ⟨Int.mul_nonneg d2.1 d3.1, ?_⟩
      have : rd a (i : Int) * rd b (t : Int) ≤ 65535 * 65535 := Int.mul_le_mul (by omega) (by omega) d3.1 (by omega)
      omega
    have hv := val_drop b t
    obtain ⟨p, hpe⟩ : ∃ p, p = rd a (i : Int) * rd b (t : Int) := ⟨_, rfl⟩
    obtain ⟨n, hn⟩ : ∃ n, n = rd l ((i + t : Nat) : Int) + p + left := ⟨_, rfl⟩
    rw [← hpe] at hp
    obtain ⟨l', e1, e2, e3, e4, e5⟩ := ih (t + 1) k (l.set (i + t) (n % 65536)) (n / 65536) (by omega) (by simp [hl]) (hd.set _ (by omega) (by omega))
      (fun j hj => by rw [rd_set, if_neg (by omega)]; exact hz j hj) (by omega) (by omega)
    refine ⟨l', ?_, e2, e3, e4, ?_⟩
    · rw [← e1, show k + (d + 1) + 1 = (k + d + 1) + 1 by omega]
      simp only [celluloidref01_times.l1]
      rw [if_pos (by omega), w64_id (n := (i : Int) + (t : Int)) (by omega) (by omega), show (i : Int) + (t : Int) = ((i + t : Nat) : Int) by omega,
        if_pos (by omega), if_pos (by omega), if_pos (by omega), if_pos (by omega), if_pos (by omega), ← hpe, w64_id (n := p) (by omega) (by omega),
        w64_id (n := rd l ((i + t : Nat) : Int) + p) (by omega) (by omega), w64_id (n := rd l ((i + t : Nat) : Int) + p + left) (by omega) (by omega), ← hn,
        Int.tdiv_eq_ediv_of_nonneg (by omega), Int.tmod_eq_emod_of_nonneg (by omega), w64_id (n := n / 65536) (by omega) (by omega), w64_id (n := (t : Int) + 1) (by omega) (by omega), show (t : Int) + 1 = ((t + 1 : Nat) : Int) by omega, Int.toNat_natCast]
    · rw [e5, val_set _ _ _ (by omega), hv, show i + (t + 1) = (i + t) + 1 by omega, B_succ]
      have hdm : n = 65536 * (n / 65536) + n % 65536 := by omega
      generalize n / 65536 = q at *
      generalize n % 65536 = r at *
      generalize val (b.drop (t + 1)) = V at *
      generalize B (i + t) = P at *
      grind
theorem times_l0 {a b : List Int} (ha : Dig a) (hb : Dig b) (hla : a.length ≤ 1000) (hlb : b.length ≤ 1000) :
    ∀ (d i k : Nat) (l : List Int), d + i = a.length → l.length = a.length + b.length → Dig l → (∀ j, i + b.length ≤ j → rd l (j : Nat) = 0) →
      ∃ l', celluloidref01_times.l0 (k + d * (b.length + 2) + 1) a b l (i : Int) = some l' ∧ l'.length = a.length + b.length ∧ Dig l' ∧ val l' = val l + B i * (val (a.drop i) * val b) := by
  intro d
  induction d with
  | zero =>
    intro i k l h hl hd hz
    refine ⟨l, ?_, hl, hd, ?_⟩
    · simp only [celluloidref01_times.l0]; rw [if_neg (by omega)]
    · rw [List.drop_of_length_le (by omega)]; simp [val]
  | succ d ih =>
    intro i k l h hl hd hz
    obtain ⟨l1, e1, e2, e3, e4, e5⟩ := times_l1 ha hb hla hlb (i := i) (by omega) b.length 0 (k + d * (b.length + 2) + 1) l 0 (by omega) hl hd hz (by omega) (by omega)
    obtain ⟨l', f1, f2, f3, f4⟩ := ih (i + 1) k l1 (by omega) e2 e3 e4
    refine ⟨l', ?_, f2, f3, ?_⟩
    · rw [← f1, ← e1, show k + (d + 1) * (b.length + 2) + 1 = (k + d * (b.length + 2) + 1 + b.length + 1) + 1 by rw [Nat.add_mul]; omega]
      simp only [celluloidref01_times.l0]
      rw [if_pos (by omega)]; rfl
    · have hv := val_drop a i
      rw [f4, e5, hv, B_succ, Nat.add_zero, List.drop_zero, Int.zero_add]
      generalize val (a.drop (i + 1)) = V at *
      generalize B i = P at *
      grind
theorem times_list {a b : List Int} (ha : Dig a) (hb : Dig b) (hla : a.length ≤ 1000) (hlb : b.length ≤ 1000) (k : Nat) (hk : 1100000 ≤ k) :
    ∃ l, celluloidref01_times.f k a b = some l ∧ l.length = a.length + b.length ∧ Dig l ∧ val l = val a * val b := by
  have hb1 : a.length * (b.length + 2) ≤ 1000 * 1002 := Nat.mul_le_mul hla (by omega)
  obtain ⟨l, e1, e2, e3, e4⟩ := times_l0 ha hb hla hlb a.length 0 (k - a.length * (b.length + 2) - 1) (List.replicate (a.length + b.length) 0) (by omega) (by simp) (Dig.zeros _)
    (fun j _ => by have := (val_eq_zero (Dig.zeros (a.length + b.length))).mp (val_zeros _) j; exact this)
  refine ⟨l, ?_, e2, e3, ?_⟩
  · unfold celluloidref01_times.f
    rw [w64_id (by omega) (by omega), if_pos (by omega), if_pos (by omega), ← e1, show ((a.length : Int) + (b.length : Int)).toNat = a.length + b.length by omega,
      show k - a.length * (b.length + 2) - 1 + a.length * (b.length + 2) + 1 = k by omega]
    rfl
  · rw [e4, val_zeros, B_zero]; simp
theorem natAbs_lt {a : Int} (ha : I64 a) : a.natAbs < 65536 ^ 5 := by
  unfold I64 at ha
  have : (65536 : Nat) ^ 5 = 1208925819614629174706176 := by decide
  rw [this]; omega
theorem product_eq {a b : Int} (ha : I64 a) (hb : I64 b) (k : Nat) (hk : 1100000 ≤ k) :
    ∃ l, celluloidref01_product.f k a b = some (l, decide (a * b < 0)) ∧ l.length = 10 ∧ Dig l ∧ val l = ((a * b).natAbs : Int) := by
  obtain ⟨l, e1, e2, e3, e4⟩ := times_list (digs_dig 5 a.natAbs) (digs_dig 5 b.natAbs) (by rw [digs_len]; omega) (by rw [digs_len]; omega) k hk
  rw [digs_len, digs_len] at e2
  rw [digs_val 5 _ (natAbs_lt ha), digs_val 5 _ (natAbs_lt hb), ← Int.natCast_mul, ← Int.natAbs_mul] at e4
  refine ⟨l, ?_, e2, e3, e4⟩
  unfold celluloidref01_product.f
  rw [digits_eq ha k (by omega), Option.bind_some, digits_eq hb k (by omega), Option.bind_some, e1, Option.bind_some]
  have hs : (decide (a < 0) != decide (b < 0)) = true ↔ ¬ (a < 0 ↔ b < 0) := by
    by_cases x : a < 0 <;> by_cases y : b < 0 <;> simp [x, y]
  by_cases h : (decide (a < 0) != decide (b < 0)) = true
  · rw [if_pos h, nought_eq e3 (by omega) k (by omega), Option.bind_some, e4]
    have hs' := hs.mp h
    have : (!decide (((a * b).natAbs : Int) = 0)) = decide (a * b < 0) := by
      rw [Bool.eq_iff_iff]
      simp only [Bool.not_eq_true', decide_eq_false_iff_not, decide_eq_true_eq]
      have hle : a * b ≤ 0 := by
        by_cases x : a < 0
        · exact Int.mul_nonpos_of_nonpos_of_nonneg (by omega) (by omega)
        · exact Int.mul_nonpos_of_nonneg_of_nonpos (by omega) (by omega)
      omega
    rw [this]
  · rw [if_neg h]
    have hs' : (a < 0 ↔ b < 0) := by
      by_cases x : a < 0 <;> by_cases y : b < 0 <;> simp [x, y] at h ⊢
    have hge : 0 ≤ a * b := by
      by_cases x : a < 0
      · exact Int.mul_nonneg_of_nonpos_of_nonpos (by omega) (by omega)
      · exact Int.mul_nonneg (by omega) (by omega)
    rw [decide_eq_false (show ¬ a * b < 0 by omega)]
def cmpV (x y : Int) : Int := if x < y then -1 else if y < x then 1 else 0
theorem order_l0 {a b : List Int} (ha : Dig a) (hb : Dig b) (hl : a.length = b.length) (h1000 : a.length ≤ 1000) :
    ∀ (i k : Nat), i ≤ a.length → val (a.drop i) = val (b.drop i) → i < k → celluloidref01_order.l0 k a b ((i : Int) - 1) = some (cmpV (val a) (val b)) := by
  intro i
  induction i with
  | zero =>
    intro k _ h hk
    obtain ⟨k, rfl⟩ : ∃ m, k = m + 1 := ⟨k - 1, by omega⟩
    simp only [celluloidref01_order.l0]
    simp only [List.drop_zero] at h
    rw [if_neg (by omega), h]; unfold cmpV; rw [if_neg (by omega), if_neg (by omega)]
  | succ i ih =>
    intro k hi h hk
    obtain ⟨k, rfl⟩ : ∃ m, k = m + 1 := ⟨k - 1, by omega⟩
    have va := val_drop a i; have vb := val_drop b i
    have ta := val_take a i; have tb := val_take b i
    have la := val_take_lt ha i; have lb := val_take_lt hb i
    have na := val_nonneg (ha.take i); have nb := val_nonneg (hb.take i)
    have key : ∀ x y : Int, x + 1 ≤ y → B i * x + B i ≤ B i * y := by
      intro x y hxy
      have := Int.mul_le_mul_of_nonneg_left hxy (Int.le_of_lt (B_pos i))
      rw [Int.mul_add, Int.mul_one] at this; exact this
    simp only [celluloidref01_order.l0]
    rw [show ((i + 1 : Nat) : Int) - 1 = (i : Int) by omega, if_pos (by omega), if_pos (by omega), if_pos (by omega), if_pos (by omega)]
    by_cases h1 : rd a (i : Int) < rd b (i : Int)
    · have := key (val (a.drop i)) (val (b.drop i)) (by omega)
      rw [if_pos h1]; unfold cmpV; rw [if_pos (by omega)]
    · rw [if_neg h1]
      by_cases h2 : rd a (i : Int) > rd b (i : Int)
      · have := key (val (b.drop i)) (val (a.drop i)) (by omega)
        rw [if_pos h2]; unfold cmpV; rw [if_neg (by omega), if_pos (by omega)]
      · rw [if_neg h2, w64_id (by omega) (by omega)]
        exact ih k (by omega) (by omega) (by omega)
theorem order_eq {a b : List Int} (ha : Dig a) (hb : Dig b) (hl : a.length = b.length) (h1000 : a.length ≤ 1000) (k : Nat) (hk : 1100000 ≤ k) :
    celluloidref01_order.f k a b = some (cmpV (val a) (val b)) := by
  unfold celluloidref01_order.f
  rw [w64_id (by omega) (by omega)]
  exact order_l0 ha hb hl h1000 a.length k (Nat.le_refl _) (by rw [List.drop_of_length_le (Nat.le_refl _), List.drop_of_length_le (by omega)]) (by omega)
end Go.Proofs.Ytnofihkmgedbfaa.P
namespace Go.Proofs.Ytnofihkmgedbfaa.P
open Go.RowKit Go.Proofs.YtnofihkmgedbfaaW.PrintWords Go.Proofs.YtnofihkmgedbfaaW.PrintLast Go.Proofs.YtnofihkmgedbfaaW.PrintMore
theorem ref_compare {a b c d : Int} (ha : I64 a) (hb : I64 b) (hc : I64 c) (hd : I64 d) (k : Nat) (hk : 1500000 ≤ k) : celluloidref01_Compare.f k a b c d = some (cmpS (a * b) (c * d)) := by
  unfold celluloidref01_Compare.f
  obtain ⟨l, e1, e2, e3, e4⟩ := product_eq ha hb k (by omega)
  obtain ⟨m, f1, f2, f3, f4⟩ := product_eq hc hd k (by omega)
  rw [e1, Option.bind_some, f1, Option.bind_some]
  generalize a * b = P at *
  generalize c * d = Q at *
  unfold cmpS
  by_cases x : P < 0
  · by_cases y : Q < 0
    · rw [decide_eq_true x, decide_eq_true y, if_neg (by simp), if_pos rfl, order_eq f3 e3 (by omega) (by omega) k (by omega), Option.bind_some, e4, f4]
      unfold cmpV
      by_cases h : P < Q
      · rw [if_pos h, if_pos (by omega)]
      · by_cases h' : Q < P
        · rw [if_neg h, if_pos h', if_neg (by omega), if_pos (by omega)]
        · rw [if_neg h, if_neg h', if_neg (by omega), if_neg (by omega)]
    · rw [decide_eq_true x, decide_eq_false y, if_pos (by simp), if_pos rfl, if_pos (by omega)]
  · by_cases y : Q < 0
    · rw [decide_eq_false x, decide_eq_true y, if_pos (by simp), if_neg (by simp), if_neg (by omega), if_pos (by omega)]
    · rw [decide_eq_false x, decide_eq_false y, if_neg (by simp), if_neg (by simp), order_eq e3 f3 (by omega) (by omega) k (by omega), Option.bind_some, e4, f4]
      unfold cmpV
      by_cases h : P < Q
      · rw [if_pos h, if_pos (by omega)]
      · by_cases h' : Q < P
        · rw [if_neg h, if_pos h', if_neg (by omega), if_pos (by omega)]
        · rw [if_neg h, if_neg h', if_neg (by omega), if_neg (by omega)]
end Go.Proofs.Ytnofihkmgedbfaa.P
namespace Go.Proofs.Ytnofihkmgedbfaa.P
open Go.RowKit Go.Proofs.YtnofihkmgedbfaaW.PrintWords Go.Proofs.YtnofihkmgedbfaaW.PrintLast Go.Proofs.YtnofihkmgedbfaaW.PrintMore
/-- Twice the area and the like, by the vectors of a piece and of a sample. -/
def nV (s t u v w : Int) : Prop :=
  if u * u + v * v ≤ s * u + t * v then 4 * ((s - u) * (s - u) + (t - v) * (t - v)) ≤ w * w
  else if s * u + t * v ≤ 0 then 4 * (s * s + t * t) ≤ w * w
  else (2 * (s * v - t * u)) * (2 * (s * v - t * u)) ≤ w * w * (u * u + v * v)
instance (s t u v w : Int) : Decidable (nV s t u v w) := by unfold nV; infer_instance
theorem sq_nn (a : Int) : 0 ≤ a * a := by
  rcases Int.le_total 0 a with h | h
  · exact Int.mul_nonneg h h
  · exact Int.mul_nonneg_of_nonpos_of_nonpos h h
theorem lag (s t u v : Int) : (2 * (s * v - t * u)) * (2 * (s * v - t * u)) = 4 * (s * s + t * t) * (u * u + v * v) - 4 * ((s * u + t * v) * (s * u + t * v)) := by grind
theorem lag2 (s t u v : Int) : (2 * (s * v - t * u)) * (2 * (s * v - t * u)) = 4 * ((s - u) * (s - u) + (t - v) * (t - v)) * (u * u + v * v) - 4 * ((s * u + t * v - (u * u + v * v)) * (s * u + t * v - (u * u + v * v))) := by grind
theorem bee (s t u v : Int) : (s - u) * (s - u) + (t - v) * (t - v) = s * s + t * t - 2 * (s * u + t * v) + (u * u + v * v) := by grind
/-- The document's way. -/
theorem nV_ref (s t u v w : Int) : nV s t u v w ↔ (4 * (s * s + t * t) ≤ w * w ∨ 4 * ((s - u) * (s - u) + (t - v) * (t - v)) ≤ w * w ∨
    (s * s + t * t < (s - u) * (s - u) + (t - v) * (t - v) + (u * u + v * v) ∧ (s - u) * (s - u) + (t - v) * (t - v) < s * s + t * t + (u * u + v * v) ∧ (2 * (s * v - t * u)) * (2 * (s * v - t * u)) ≤ w * w * (u * u + v * v))) := by
  have l1 := lag s t u v
  have l2 := lag2 s t u v
  have b := bee s t u v
  have q1 := sq_nn (s * u + t * v)
  have q2 := sq_nn (s * u + t * v - (u * u + v * v))
  have c0 : 0 ≤ u * u + v * v := by have := sq_nn u; have := sq_nn v; omega
  have m1 : 4 * (s * s + t * t) ≤ w * w → 4 * (s * s + t * t) * (u * u + v * v) ≤ w * w * (u * u + v * v) := fun h => Int.mul_le_mul_of_nonneg_right h c0
  have m2 : 4 * ((s - u) * (s - u) + (t - v) * (t - v)) ≤ w * w → 4 * ((s - u) * (s - u) + (t - v) * (t - v)) * (u * u + v * v) ≤ w * w * (u * u + v * v) := fun h => Int.mul_le_mul_of_nonneg_right h c0
  unfold nV
  generalize (2 * (s * v - t * u)) * (2 * (s * v - t * u)) = X at *
  generalize w * w * (u * u + v * v) = Y at *
  generalize 4 * (s * s + t * t) * (u * u + v * v) = Z at *
  generalize 4 * ((s - u) * (s - u) + (t - v) * (t - v)) * (u * u + v * v) = Z2 at *
  generalize (s * u + t * v - (u * u + v * v)) * (s * u + t * v - (u * u + v * v)) = D2 at *
  generalize (s * u + t * v) * (s * u + t * v) = D at *
  generalize (s - u) * (s - u) + (t - v) * (t - v) = B at *
  generalize s * s + t * t = A at *
  generalize s * u + t * v = d at *
  generalize u * u + v * v = c at *
  generalize w * w = W at *
  by_cases h1 : c ≤ d
  · rw [if_pos h1]; constructor
    · intro h; omega
    · rintro (h | h | h) <;> omega
  · rw [if_neg h1]
    by_cases h2 : d ≤ 0
    · rw [if_pos h2]; constructor
      · intro h; omega
      · rintro (h | h | h) <;> omega
    · rw [if_neg h2]; constructor
      · intro h; right; right; omega
      · rintro (h | h | h)
        · have := m1 h; omega
        · have := m2 h; omega
        · omega
theorem and_low (n : Int) (m : Nat) (hm : m ≤ 62) (c : Int) (hc : c = ((2 ^ m - 1 : Nat) : Int)) : Go.bits .and .i64 n c = n % ((2 ^ m : Nat) : Int) := by
  subst hc
  have hp := Nat.two_pow_pos m
  have hp2 : 2 ^ m ≤ 2 ^ 62 := Nat.pow_le_pow_right (by omega) hm
  have h1 : (BitVec.ofInt 64 ((2 ^ m - 1 : Nat) : Int)).toNat = 2 ^ m - 1 := by
    rw [BitVec.toNat_ofInt]
    generalize 2 ^ m = p at *
    have : (2 : Nat) ^ 64 = 18446744073709551616 := by decide
    rw [this]; omega
  have key : (BitVec.ofInt 64 n &&& BitVec.ofInt 64 ((2 ^ m - 1 : Nat) : Int)).toNat = (n % ((2 ^ 64 : Nat) : Int)).toNat % 2 ^ m := by
    rw [BitVec.toNat_and, BitVec.toNat_ofInt, h1, Nat.and_two_pow_sub_one_eq_mod]
  show IntKind.i64.wrap ((BitVec.ofInt 64 n &&& BitVec.ofInt 64 ((2 ^ m - 1 : Nat) : Int)).toNat : Nat) = n % ((2 ^ m : Nat) : Int)
  rw [key, IntKind.wrap_i64]
  have hdvd : ((2 ^ m : Nat) : Int) ∣ ((2 ^ 64 : Nat) : Int) := by
    rw [Int.natCast_dvd_natCast]; exact Nat.pow_dvd_pow 2 (by omega)
  have e : (((n % ((2 ^ 64 : Nat) : Int)).toNat % 2 ^ m : Nat) : Int) = n % ((2 ^ m : Nat) : Int) := by
    rw [Int.natCast_emod, Int.toNat_of_nonneg (Int.emod_nonneg _ (by decide)), Int.emod_emod_of_dvd _ hdvd]
  rw [e]
  have h0 := Int.emod_nonneg n (show ((2 ^ m : Nat) : Int) ≠ 0 by omega)
  have h2 := Int.emod_lt_of_pos n (show 0 < ((2 ^ m : Nat) : Int) by omega)
  have h62 : (2 : Nat) ^ 62 = 4611686018427387904 := by decide
  generalize n % ((2 ^ m : Nat) : Int) = z at *
  generalize 2 ^ m = p at *
  omega
theorem and1 (n : Int) : Go.bits .and .i64 n 1 = n % 2 := and_low n 1 (by omega) 1 (by decide)
/-- May a point be a curve's? -/
def EvP (x y : Int) : Prop := x % 2 = 0 ∧ y % 2 = 0 ∧ -16777216 ≤ x ∧ x ≤ 16777216 ∧ -16777216 ≤ y ∧ y ≤ 16777216
instance (x y : Int) : Decidable (EvP x y) := by unfold EvP; infer_instance
theorem even_eq (x y : Int) : curve_Even.f x y = some (decide (EvP x y)) := by
  unfold curve_Even.f
  rw [and1, and1]
  by_cases h1 : x % 2 = 0
  · rw [if_pos h1]
    by_cases h2 : y % 2 = 0
    · rw [if_pos h2]
      by_cases h3 : mx x y ≤ 16777216
      · rw [if_pos h3]; congr 1; apply decide_eq_decide.mpr; unfold EvP; unfold mx at h3; unfold mn; omega
      · rw [if_neg h3]; congr 1; symm; apply decide_eq_false; unfold EvP; unfold mx at h3; omega
    · rw [if_neg h2]; congr 1; symm; apply decide_eq_false; unfold EvP; omega
  · rw [if_neg h1]; congr 1; symm; apply decide_eq_false; unfold EvP; omega
theorem tmod2 (x : Int) : Int.tmod x 2 = 0 ↔ x % 2 = 0 := by rw [← Int.dvd_iff_tmod_eq_zero, Int.dvd_iff_emod_eq_zero]
theorem evenR_eq (x y : Int) (k : Nat) (hk : 10 ≤ k) : celluloidref16_Even.f k x y = some (decide (EvP x y)) := by
  obtain ⟨k, rfl⟩ : ∃ m, k = m + 10 := ⟨k - 10, by omega⟩
  have step : ∀ (i : Nat) (k : Nat), i < 2 → celluloidref16_Even.l0 (k + 1) [x, y] 2 (i : Int) = if rd [x, y] (i : Int) % 2 = 0 ∧ rd [x, y] (i : Int) ≤ 16777216 ∧ -16777216 ≤ rd [x, y] (i : Int) then celluloidref16_Even.l0 k [x, y] 2 ((i : Int) + 1) else some false := by
    intro i k hi
    rw [celluloidref16_Even.l0, if_pos (by omega), if_pos (by omega), if_pos (by simp; omega)]
    generalize rd [x, y] (i : Int) = z
    have ht := tmod2 z
    by_cases h1 : z % 2 = 0
    · rw [if_pos (ht.mpr h1)]
      by_cases h2 : z > 16777216
      · rw [if_pos h2, if_neg (by omega)]
      · rw [if_neg h2]
        by_cases h3 : z < -16777216
        · rw [if_pos h3, if_neg (by omega)]
        · rw [if_neg h3, if_pos (by omega), w64_id (by omega) (by omega)]
    · rw [if_neg (fun h => h1 (ht.mp h)), if_neg (by omega)]
  have e : celluloidref16_Even.f (k + 10) x y = celluloidref16_Even.l0 (k + 10) [x, y] 2 ((0 : Nat) : Int) := rfl
  rw [e, step 0 (k + 9) (by omega)]
  have r0 : rd [x, y] ((0 : Nat) : Int) = x := rfl
  have r1 : rd [x, y] ((1 : Nat) : Int) = y := rfl
  rw [r0]
  by_cases h : x % 2 = 0 ∧ x ≤ 16777216 ∧ -16777216 ≤ x
  · rw [if_pos h, show ((0 : Nat) : Int) + 1 = ((1 : Nat) : Int) from rfl, step 1 (k + 8) (by omega), r1]
    by_cases h' : y % 2 = 0 ∧ y ≤ 16777216 ∧ -16777216 ≤ y
    · rw [if_pos h', celluloidref16_Even.l0, if_neg (by omega)]; congr 1; symm; apply decide_eq_true; unfold EvP; omega
    · rw [if_neg h']; congr 1; symm; apply decide_eq_false; unfold EvP; omega
  · rw [if_neg h]; congr 1; symm; apply decide_eq_false; unfold EvP; omega
/-- Is a piece right? -/
def PieceR (ax ay bx bz l w : Int) : Prop := EvP ax ay ∧ EvP bx bz ∧ 0 < l ∧ l < 256 ∧ 0 < w ∧ w ≤ 1048576
instance (ax ay bx bz l w : Int) : Decidable (PieceR ax ay bx bz l w) := by unfold PieceR; infer_instance
/-- Is a sample near a piece? -/
def nP (ax ay bx bz w x y : Int) : Prop := nV (x - ax) (y - ay) (bx - ax) (bz - ay) w
instance (ax ay bx bz w x y : Int) : Decidable (nP ax ay bx bz w x y) := by unfold nP; infer_instance
/-- May a sample be there? -/
def Inn (x y : Int) : Prop := -16777216 ≤ x ∧ x ≤ 16777216 ∧ -16777216 ≤ y ∧ y ≤ 16777216
instance (x y : Int) : Decidable (Inn x y) := by unfold Inn; infer_instance
theorem piece_eq (ax ay bx bz l w : Int) : stroke_RightPiece.f ax ay bx bz l w = some (decide (PieceR ax ay bx bz l w)) := by
  unfold stroke_RightPiece.f
  rw [even_eq, even_eq, Option.bind_some, Option.bind_some]
  unfold PieceR
  by_cases h1 : EvP ax ay
  · rw [if_pos (decide_eq_true h1)]
    by_cases h2 : EvP bx bz
    · rw [if_pos (decide_eq_true h2)]
      by_cases h3 : l ≥ 1
      · rw [if_pos h3]
        by_cases h4 : l < 256
        · rw [if_pos h4]
          by_cases h5 : w ≥ 1
          · rw [if_pos h5]; congr 1; exact decide_eq_decide.mpr ⟨fun h => ⟨h1, h2, by omega, h4, by omega, h⟩, fun h => h.2.2.2.2.2⟩
          · rw [if_neg h5]; congr 1; symm; apply decide_eq_false; intro h; omega
        · rw [if_neg h4]; congr 1; symm; apply decide_eq_false; intro h; exact h4 h.2.2.2.1
      · rw [if_neg h3]; congr 1; symm; apply decide_eq_false; intro h; omega
    · rw [if_neg (by simpa using h2)]; congr 1; symm; apply decide_eq_false; intro h; exact h2 h.2.1
  · rw [if_neg (by simpa using h1)]; congr 1; symm; apply decide_eq_false; intro h; exact h1 h.1
theorem pieceR_eq (ax ay bx bz l w : Int) (k : Nat) (hk : 10 ≤ k) : celluloidref18_Right.f k ax ay bx bz l w = some (decide (PieceR ax ay bx bz l w)) := by
  unfold celluloidref18_Right.f
  rw [evenR_eq _ _ k hk, evenR_eq _ _ k hk, Option.bind_some, Option.bind_some]
  unfold PieceR
  by_cases h1 : EvP ax ay
  · rw [if_pos (decide_eq_true h1)]
    by_cases h2 : EvP bx bz
    · rw [if_pos (decide_eq_true h2)]
      by_cases h3 : l > 0
      · rw [if_pos h3]
        by_cases h4 : l < 256
        · rw [if_pos h4]
          by_cases h5 : w > 0
          · rw [if_pos h5]; congr 1; exact decide_eq_decide.mpr ⟨fun h => ⟨h1, h2, h3, h4, h5, h⟩, fun h => h.2.2.2.2.2⟩
          · rw [if_neg h5]; congr 1; symm; apply decide_eq_false; intro h; exact h5 h.2.2.2.2.1
        · rw [if_neg h4]; congr 1; symm; apply decide_eq_false; intro h; exact h4 h.2.2.2.1
      · rw [if_neg h3]; congr 1; symm; apply decide_eq_false; intro h; exact h3 h.2.2.1
    · rw [if_neg (by simpa using h2)]; congr 1; symm; apply decide_eq_false; intro h; exact h2 h.2.1
  · rw [if_neg (by simpa using h1)]; congr 1; symm; apply decide_eq_false; intro h; exact h1 h.1
/-- Numbers whose product fits. -/
theorem pb {a b : Int} (ha : -33554432 ≤ a ∧ a ≤ 33554432) (hb : -33554432 ≤ b ∧ b ≤ 33554432) : -1125899906842624 ≤ a * b ∧ a * b ≤ 1125899906842624 := by
  have h1 := Int.mul_nonneg (a := 33554432 - a) (b := 33554432 - b) (by omega) (by omega)
  have h2 := Int.mul_nonneg (a := 33554432 + a) (b := 33554432 + b) (by omega) (by omega)
  have h3 := Int.mul_nonneg (a := 33554432 - a) (b := 33554432 + b) (by omega) (by omega)
  have h4 := Int.mul_nonneg (a := 33554432 + a) (b := 33554432 - b) (by omega) (by omega)
  have e1 : (33554432 - a) * (33554432 - b) = 1125899906842624 - 33554432 * a - 33554432 * b + a * b := by grind
  have e2 : (33554432 + a) * (33554432 + b) = 1125899906842624 + 33554432 * a + 33554432 * b + a * b := by grind
  have e3 : (33554432 - a) * (33554432 + b) = 1125899906842624 - 33554432 * a + 33554432 * b - a * b := by grind
  have e4 : (33554432 + a) * (33554432 - b) = 1125899906842624 + 33554432 * a - 33554432 * b - a * b := by grind
  omega
theorem cmp_le (x y : Int) : cmpS x y ≤ 0 ↔ x ≤ y := by
  unfold cmpS
  by_cases h : x < y
  · rw [if_pos h]; omega
  · rw [if_neg h]
    by_cases h' : y < x
    · rw [if_pos h']; omega
    · rw [if_neg h']; omega
theorem near_eq {ax ay bx bz l w x y : Int} (h : PieceR ax ay bx bz l w) (hi : Inn x y) : stroke_near.f ax ay bx bz l w x y = some (decide (nP ax ay bx bz w x y)) := by
  obtain ⟨ha, hb, _, _, hw0, hw1⟩ := h
  unfold EvP at ha hb
  unfold Inn at hi
  have eP : decide (nP ax ay bx bz w x y) = decide (nV (x - ax) (y - ay) (bx - ax) (bz - ay) w) := decide_eq_decide.mpr Iff.rfl
  rw [eP]
  unfold stroke_near.f
  clear eP
  have eW : wrap64 (w * w) = w * w := w64_id (by have := pb (a := w) (b := w) (by omega) (by omega); omega) (by have := pb (a := w) (b := w) (by omega) (by omega); omega)
  have e1 : wrap64 (x - ax) = x - ax := w64_id (by omega) (by omega)
  have e2 : wrap64 (y - ay) = y - ay := w64_id (by omega) (by omega)
  have e3 : wrap64 (bx - ax) = bx - ax := w64_id (by omega) (by omega)
  have e4 : wrap64 (bz - ay) = bz - ay := w64_id (by omega) (by omega)
  have e5 : wrap64 (x - bx) = (x - ax) - (bx - ax) := by rw [w64_id (by omega) (by omega)]; omega
  have e6 : wrap64 (y - bz) = (y - ay) - (bz - ay) := by rw [w64_id (by omega) (by omega)]; omega
  rw [eW, e1, e2, e3, e4, e5, e6]
  have hs : -33554432 ≤ x - ax ∧ x - ax ≤ 33554432 := by omega
  have ht : -33554432 ≤ y - ay ∧ y - ay ≤ 33554432 := by omega
  have hu : -33554432 ≤ bx - ax ∧ bx - ax ≤ 33554432 := by omega
  have hv : -33554432 ≤ bz - ay ∧ bz - ay ≤ 33554432 := by omega
  have hsu : -33554432 ≤ (x - ax) - (bx - ax) ∧ (x - ax) - (bx - ax) ≤ 33554432 := by omega
  have htv : -33554432 ≤ (y - ay) - (bz - ay) ∧ (y - ay) - (bz - ay) ≤ 33554432 := by omega
  have hwp := pb (a := w) (b := w) (by omega) (by omega)
  clear eW e1 e2 e3 e4 e5 e6 hi ha hb hw0 hw1
  generalize x - ax = s at *
  generalize y - ay = t at *
  generalize bx - ax = u at *
  generalize bz - ay = v at *
  have p1 := pb hs hu
  have p2 := pb ht hv
  have p3 := pb hu hu
  have p4 := pb hv hv
  have p5 := pb hsu hsu
  have p6 := pb htv htv
  have p7 := pb hs hs
  have p8 := pb ht ht
  have p9 := pb hs hv
  have p10 := pb ht hu
  rw [w64_id (n := s * u) (by omega) (by omega), w64_id (n := t * v) (by omega) (by omega), w64_id (n := u * u) (by omega) (by omega), w64_id (n := v * v) (by omega) (by omega), w64_id (n := (s - u) * (s - u)) (by omega) (by omega), w64_id (n := (t - v) * (t - v)) (by omega) (by omega), w64_id (n := s * s) (by omega) (by omega), w64_id (n := t * t) (by omega) (by omega), w64_id (n := s * v) (by omega) (by omega), w64_id (n := t * u) (by omega) (by omega),
    w64_id (n := s * u + t * v) (by omega) (by omega), w64_id (n := u * u + v * v) (by omega) (by omega), w64_id (n := (s - u) * (s - u) + (t - v) * (t - v)) (by omega) (by omega), w64_id (n := s * s + t * t) (by omega) (by omega), w64_id (n := s * v - t * u) (by omega) (by omega), w64_id (n := 4 * ((s - u) * (s - u) + (t - v) * (t - v))) (by omega) (by omega), w64_id (n := 4 * (s * s + t * t)) (by omega) (by omega), w64_id (n := 2 * (s * v - t * u)) (by omega) (by omega)]
  by_cases h1 : u * u + v * v ≤ s * u + t * v
  · have e : nV s t u v w ↔ 4 * ((s - u) * (s - u) + (t - v) * (t - v)) ≤ w * w := by unfold nV; rw [if_pos h1]
    have e' : decide (nV s t u v w) = decide (4 * ((s - u) * (s - u) + (t - v) * (t - v)) ≤ w * w) := decide_eq_decide.mpr e
    rw [if_pos h1, e']
    by_cases h2 : s * u + t * v ≤ 0
    · rw [if_pos h2]
    · rw [if_neg h2]
  · rw [if_neg h1]
    by_cases h2 : s * u + t * v ≤ 0
    · have e : nV s t u v w ↔ 4 * (s * s + t * t) ≤ w * w := by unfold nV; rw [if_neg h1, if_pos h2]
      have e' : decide (nV s t u v w) = decide (4 * (s * s + t * t) ≤ w * w) := decide_eq_decide.mpr e
      rw [if_pos h2, e']
    · have e : nV s t u v w ↔ (2 * (s * v - t * u)) * (2 * (s * v - t * u)) ≤ w * w * (u * u + v * v) := by unfold nV; rw [if_neg h1, if_neg h2]
      have e' : decide (cmpS (2 * (s * v - t * u) * (2 * (s * v - t * u))) (w * w * (u * u + v * v)) ≤ 0) = decide (nV s t u v w) := decide_eq_decide.mpr ((cmp_le _ _).trans e.symm)
      rw [if_neg h2, compare_eq (by unfold I64; omega) (by unfold I64; omega) (by unfold I64; omega) (by unfold I64; omega), Option.bind_some, e']
theorem Near_eq (ax ay bx bz l w x y : Int) : stroke_Near.f ax ay bx bz l w x y = some (decide (PieceR ax ay bx bz l w ∧ Inn x y ∧ nP ax ay bx bz w x y)) := by
  unfold stroke_Near.f
  rw [piece_eq, Option.bind_some]
  by_cases h : PieceR ax ay bx bz l w
  · rw [if_pos (decide_eq_true h)]
    by_cases h1 : mx x y > 16777216
    · rw [if_pos h1, decide_eq_false]
      rintro ⟨_, hi, _⟩; unfold Inn at hi; unfold mx at h1; omega
    · rw [if_neg h1]
      by_cases h2 : mn x y < -16777216
      · rw [if_pos h2, decide_eq_false]
        rintro ⟨_, hi, _⟩; unfold Inn at hi; unfold mn at h2; omega
      · have hi : Inn x y := by unfold Inn; unfold mx at h1; unfold mn at h2; omega
        rw [if_neg h2, near_eq h hi, Option.bind_some]
        congr 1; exact decide_eq_decide.mpr ⟨fun g => ⟨h, hi, g⟩, fun g => g.2.2⟩
  · rw [if_neg (by simpa using h), decide_eq_false (fun g => h g.1)]
theorem nearR_eq {ax ay bx bz l w x y : Int} (h : PieceR ax ay bx bz l w) (hi : Inn x y) (k : Nat) (hk : 1500001 ≤ k) : celluloidref18_Near.f k ax ay bx bz l w x y = some (decide (nP ax ay bx bz w x y)) := by
  obtain ⟨k, rfl⟩ : ∃ m, k = m + 1 := ⟨k - 1, by omega⟩
  obtain ⟨ha, hb, _, _, hw0, hw1⟩ := h
  unfold EvP at ha hb
  unfold Inn at hi
  have hr := nV_ref (x - ax) (y - ay) (bx - ax) (bz - ay) w
  have eW : wrap64 (w * w) = w * w := w64_id (by have := pb (a := w) (b := w) (by omega) (by omega); omega) (by have := pb (a := w) (b := w) (by omega) (by omega); omega)
  have e1 : wrap64 (ax - x) = -(x - ax) := by rw [w64_id (by omega) (by omega)]; omega
  have e2 : wrap64 (ay - y) = -(y - ay) := by rw [w64_id (by omega) (by omega)]; omega
  have e3 : wrap64 (bx - x) = -((x - ax) - (bx - ax)) := by rw [w64_id (by omega) (by omega)]; omega
  have e4 : wrap64 (bz - y) = -((y - ay) - (bz - ay)) := by rw [w64_id (by omega) (by omega)]; omega
  have e5 : wrap64 (ax - bx) = -(bx - ax) := by rw [w64_id (by omega) (by omega)]; omega
  have e6 : wrap64 (ay - bz) = -(bz - ay) := by rw [w64_id (by omega) (by omega)]; omega
  have e7 : wrap64 (bx - ax) = bx - ax := w64_id (by omega) (by omega)
  have e8 : wrap64 (bz - ay) = bz - ay := w64_id (by omega) (by omega)
  have e9 : wrap64 (x - ax) = x - ax := w64_id (by omega) (by omega)
  have e10 : wrap64 (y - ay) = y - ay := w64_id (by omega) (by omega)
  have hs : -33554432 ≤ x - ax ∧ x - ax ≤ 33554432 := by omega
  have ht : -33554432 ≤ y - ay ∧ y - ay ≤ 33554432 := by omega
  have hu : -33554432 ≤ bx - ax ∧ bx - ax ≤ 33554432 := by omega
  have hv : -33554432 ≤ bz - ay ∧ bz - ay ≤ 33554432 := by omega
  have hsu : -33554432 ≤ (x - ax) - (bx - ax) ∧ (x - ax) - (bx - ax) ≤ 33554432 := by omega
  have htv : -33554432 ≤ (y - ay) - (bz - ay) ∧ (y - ay) - (bz - ay) ≤ 33554432 := by omega
  have hwp := pb (a := w) (b := w) (by omega) (by omega)
  have eP : decide (nP ax ay bx bz w x y) = decide (nV (x - ax) (y - ay) (bx - ax) (bz - ay) w) := decide_eq_decide.mpr Iff.rfl
  rw [eP]
  clear eP
  unfold celluloidref18_Near.f celluloidref18_square.f
  rw [e1, e2, e3, e4, e5, e6, Option.bind_some, Option.bind_some, Option.bind_some]
  simp only [celluloidref18_Near.j0]
  rw [eW, e7, e8, e9, e10]
  clear eW e1 e2 e3 e4 e5 e6 e7 e8 e9 e10 hi ha hb hw0 hw1
  generalize x - ax = s at *
  generalize y - ay = t at *
  generalize bx - ax = u at *
  generalize bz - ay = v at *
  have p1 := pb hs hu
  have p2 := pb ht hv
  have p3 := pb hu hu
  have p4 := pb hv hv
  have p5 := pb hsu hsu
  have p6 := pb htv htv
  have p7 := pb hs hs
  have p8 := pb ht ht
  have p9 := pb hu ht
  have p10 := pb hv hs
  rw [Int.neg_mul_neg, Int.neg_mul_neg, Int.neg_mul_neg, Int.neg_mul_neg, Int.neg_mul_neg, Int.neg_mul_neg]
  rw [w64_id (n := u * u) (by omega) (by omega), w64_id (n := v * v) (by omega) (by omega), w64_id (n := (s - u) * (s - u)) (by omega) (by omega), w64_id (n := (t - v) * (t - v)) (by omega) (by omega), w64_id (n := s * s) (by omega) (by omega), w64_id (n := t * t) (by omega) (by omega), w64_id (n := u * t) (by omega) (by omega), w64_id (n := v * s) (by omega) (by omega),
    w64_id (n := u * u + v * v) (by omega) (by omega), w64_id (n := (s - u) * (s - u) + (t - v) * (t - v)) (by omega) (by omega), w64_id (n := s * s + t * t) (by omega) (by omega), w64_id (n := u * t - v * s) (by omega) (by omega), w64_id (n := 4 * ((s - u) * (s - u) + (t - v) * (t - v))) (by omega) (by omega), w64_id (n := 4 * (s * s + t * t)) (by omega) (by omega), w64_id (n := 2 * (u * t - v * s)) (by omega) (by omega),
    w64_id (n := (s - u) * (s - u) + (t - v) * (t - v) + (u * u + v * v)) (by omega) (by omega), w64_id (n := s * s + t * t + (u * u + v * v)) (by omega) (by omega)]
  have ex : (2 * (u * t - v * s)) * (2 * (u * t - v * s)) = (2 * (s * v - t * u)) * (2 * (s * v - t * u)) := by grind
  rw [ref_compare (a := 2 * (u * t - v * s)) (b := 2 * (u * t - v * s)) (c := w * w) (d := u * u + v * v) (by unfold I64; omega) (by unfold I64; omega) (by unfold I64; omega) (by unfold I64; omega) k (by omega), Option.bind_some, ex]
  have eC : decide (cmpS (2 * (s * v - t * u) * (2 * (s * v - t * u))) (w * w * (u * u + v * v)) ≤ 0) = decide (2 * (s * v - t * u) * (2 * (s * v - t * u)) ≤ w * w * (u * u + v * v)) := decide_eq_decide.mpr (cmp_le _ _)
  rw [eC]
  clear eC ex
  generalize (2 * (s * v - t * u)) * (2 * (s * v - t * u)) = X at *
  generalize w * w * (u * u + v * v) = Y at *
  generalize (s - u) * (s - u) + (t - v) * (t - v) = B at *
  generalize s * s + t * t = A at *
  generalize u * u + v * v = c at *
  generalize w * w = W at *
  by_cases h1 : 4 * A ≤ W
  · rw [if_pos h1, if_pos (by simp), decide_eq_true (hr.mpr (.inl h1))]
  · rw [if_neg h1]
    by_cases h2 : 4 * B ≤ W
    · rw [decide_eq_true h2, if_pos (by simp), decide_eq_true (hr.mpr (.inr (.inl h2)))]
    · rw [decide_eq_false h2, if_neg (by simp)]
      by_cases h3 : A ≥ B + c
      · rw [if_pos h3, decide_eq_false (fun g => by rcases hr.mp g with g | g | g <;> omega)]
      · rw [if_neg h3]
        by_cases h4 : B ≥ A + c
        · rw [if_pos h4, decide_eq_false (fun g => by rcases hr.mp g with g | g | g <;> omega)]
        · rw [if_neg h4]; congr 1
          exact decide_eq_decide.mpr ⟨fun g => hr.mpr (.inr (.inr ⟨by omega, by omega, g⟩)), fun g => by rcases hr.mp g with g | g | g <;> omega⟩
theorem far_eq (x y : Int) : celluloidlaw18_far.f x y = some (decide (¬ Inn x y)) := by
  unfold celluloidlaw18_far.f
  by_cases h1 : mx x y > 16777216
  · rw [if_pos h1, decide_eq_true]; unfold Inn; unfold mx at h1; omega
  · rw [if_neg h1]; congr 1; apply decide_eq_decide.mpr; unfold Inn; unfold mx at h1; unfold mn; omega
theorem awake_at : celluloidlaw18_awake.f 200 = some true := by kernel_rfl
theorem awake_eq (k : Nat) (hk : 200 ≤ k) : celluloidlaw18_awake.f k = some true := at_rounds celluloidlaw18_awake.mono hk awake_at
end Go.Proofs.Ytnofihkmgedbfaa.P
namespace Go.Proofs.Ytnofihkmgedbfaa.Pure
open Go.RowKit Go.Proofs.Ytnofihkmgedbfaa.P Go.Proofs.YtnofihkmgedbfaaW.PrintWords Go.Proofs.YtnofihkmgedbfaaW.PrintLast Go.Proofs.YtnofihkmgedbfaaW.PrintMore
theorem StrokeNears : celluloidlaw18_StrokeNears.Pure := by
  intro p x y _ _ _
  obtain ⟨k, hk⟩ : ∃ k : Nat, 1500001 ≤ k := ⟨_, Nat.le_refl _⟩
  refine ⟨k, ?_⟩
  unfold celluloidlaw18_StrokeNears.f celluloidlaw18_ref.f
  generalize p.f0.f0 = ax
  generalize p.f0.f1 = ay
  generalize p.f1.f0 = bx
  generalize p.f1.f1 = bz
  generalize p.f2 = l
  generalize p.f3 = w
  rw [Option.bind_some]
  dsimp only
  simp only [pieceR_eq _ _ _ _ _ _ k (show 10 ≤ k by omega), far_eq, piece_eq, Near_eq, awake_eq k (show 200 ≤ k by omega), Option.bind_some]
  by_cases h : PieceR ax ay bx bz l w
  · rw [if_pos (decide_eq_true h)]
    by_cases hi : Inn x y
    · rw [if_neg (by simpa using hi), nearR_eq h hi k (by omega), Option.bind_some, if_pos (by simp), if_pos]
      rw [beq_iff_eq]; exact decide_eq_decide.mpr ⟨fun g => g.2.2, fun g => ⟨h, hi, g⟩⟩
    · rw [if_pos (decide_eq_true hi), if_pos (by simp), if_pos]
      rw [beq_iff_eq]; exact decide_eq_false (fun g => hi g.2.1)
  · rw [if_neg (by simpa using h), if_pos (by simp), if_pos]
    rw [beq_iff_eq]; exact decide_eq_false (fun g => h g.1)
end Go.Proofs.Ytnofihkmgedbfaa.Pure
