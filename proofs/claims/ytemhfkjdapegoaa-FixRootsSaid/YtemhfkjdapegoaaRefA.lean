/- Sizes as lists of digits to the base 2^16, as the document's answer of layer 1 has them: what their digits, products and orders come to. -/
import Derived.Test.YtemhfkjdapegoaaFixB
import Derived.Test.YtemhfkjdapegoaaPx2
import Derived.Test.YtemhfkjdapegoaaPx3
namespace Go.Proofs.Ytemhfkjdapegoaa.P
open Go.RowKit Go.Proofs.YtemhfkjdapegoaaW.PrintWords Go.Proofs.YtemhfkjdapegoaaW.PrintLast Go.Proofs.YtemhfkjdapegoaaW.PrintMore

/-- The number that a list of digits tells, the lowest first. -/
def val : List Int → Int
  | [] => 0
  | d :: l => d + 65536 * val l
/-- All of them are digits. -/
def Dig (l : List Int) : Prop := ∀ j, 0 ≤ rd l (j : Nat) ∧ rd l (j : Nat) < 65536

theorem rd_nil (j : Nat) : rd [] (j : Int) = 0 := by simp [rd]
theorem rd_zero (d : Int) (l : List Int) : rd (d :: l) ((0 : Nat) : Int) = d := by simp [rd]
theorem rd_succ (d : Int) (l : List Int) (j : Nat) : rd (d :: l) ((j + 1 : Nat) : Int) = rd l (j : Int) := by simp [rd]
theorem rd_out (l : List Int) {j : Nat} (h : l.length ≤ j) : rd l (j : Int) = 0 := by
  unfold rd; simp [h]
theorem rd_drop (l : List Int) (i j : Nat) : rd (l.drop i) (j : Int) = rd l ((i + j : Nat) : Int) := by
  unfold rd; rw [Int.toNat_natCast, Int.toNat_natCast]; simp [List.getD_eq_getElem?_getD]
theorem rd_set (l : List Int) (i j : Nat) (x : Int) : rd (l.set i x) (j : Int) = if i = j ∧ j < l.length then x else rd l (j : Int) := by
  unfold rd
  simp only [Int.toNat_natCast, List.getD_eq_getElem?_getD, List.getElem?_set]
  by_cases h : i = j
  · subst h
    by_cases h2 : i < l.length
    · simp [h2]
    · simp [h2]
  · simp [h]
theorem rd_append (l : List Int) (x : Int) (j : Nat) : rd (l ++ [x]) (j : Int) = if j = l.length then x else rd l (j : Int) := by
  unfold rd
  simp only [Int.toNat_natCast, List.getD_eq_getElem?_getD, List.getElem?_append]
  by_cases h : j < l.length
  · rw [if_pos h, if_neg (by omega)]
  · rw [if_neg h]
    by_cases h2 : j = l.length
    · subst h2; simp
    · rw [if_neg h2, List.getElem?_eq_none (by simp; omega), List.getElem?_eq_none (by omega)]

theorem Dig.nil : Dig [] := by intro j; rw [rd_nil]; omega
theorem Dig.drop {l : List Int} (h : Dig l) (i : Nat) : Dig (l.drop i) := by intro j; rw [rd_drop]; exact h _
theorem Dig.take {l : List Int} (h : Dig l) (i : Nat) : Dig (l.take i) := by
  intro j
  have := h j
  unfold rd at this ⊢
  simp only [Int.toNat_natCast, List.getD_eq_getElem?_getD, List.getElem?_take] at this ⊢
  split
  · exact this
  · simp
theorem Dig.set {l : List Int} (h : Dig l) (i : Nat) {x : Int} (h0 : 0 ≤ x) (h1 : x < 65536) : Dig (l.set i x) := by
  intro j; rw [rd_set]; split
  · exact ⟨h0, h1⟩
  · exact h j
theorem Dig.append {l : List Int} (h : Dig l) {x : Int} (h0 : 0 ≤ x) (h1 : x < 65536) : Dig (l ++ [x]) := by
  intro j; rw [rd_append]; split
  · exact ⟨h0, h1⟩
  · exact h j
theorem Dig.cons {d : Int} {l : List Int} (h0 : 0 ≤ d) (h1 : d < 65536) (h : Dig l) : Dig (d :: l) := by
  intro j
  cases j with
  | zero => rw [rd_zero]; exact ⟨h0, h1⟩
  | succ j => rw [rd_succ]; exact h j
theorem Dig.tail {d : Int} {l : List Int} (h : Dig (d :: l)) : Dig l := by
  intro j; have := h (j + 1); rwa [rd_succ] at this
theorem Dig.head {d : Int} {l : List Int} (h : Dig (d :: l)) : 0 ≤ d ∧ d < 65536 := by
  have := h 0; rwa [rd_zero] at this
theorem Dig.zeros (n : Nat) : Dig (List.replicate n 0) := by
  intro j
  have : rd (List.replicate n 0) (j : Int) = 0 := by
    unfold rd; simp only [Int.toNat_natCast, List.getD_eq_getElem?_getD, List.getElem?_replicate]; split <;> simp
  omega

theorem val_nonneg : ∀ {l : List Int}, Dig l → 0 ≤ val l := by
  intro l
  induction l with
  | nil => intro _; simp [val]
  | cons d l ih => intro h; have := ih h.tail; have := h.head; simp only [val]; omega
theorem val_zeros (n : Nat) : val (List.replicate n 0) = 0 := by
  induction n with
  | zero => rfl
  | succ n ih => rw [List.replicate_succ]; simp only [val]; omega
/-- A place's worth. -/
def B (n : Nat) : Int := 65536 ^ n
theorem B_zero : B 0 = 1 := rfl
theorem B_succ (n : Nat) : B (n + 1) = 65536 * B n := by unfold B; rw [Int.pow_succ]; omega
theorem B_pos (n : Nat) : 0 < B n := by
  induction n with
  | zero => decide
  | succ n ih => rw [B_succ]; omega
theorem val_lt : ∀ {l : List Int}, Dig l → val l < B l.length := by
  intro l
  induction l with
  | nil => intro _; decide
  | cons d l ih => intro h; have := ih h.tail; have := h.head; simp only [val, List.length_cons]; rw [B_succ]; omega
theorem val_drop (l : List Int) (i : Nat) : val (l.drop i) = rd l (i : Int) + 65536 * val (l.drop (i + 1)) := by
  induction l generalizing i with
  | nil => simp [val, rd_nil]
  | cons d l ih =>
    cases i with
    | zero => rw [rd_zero]; simp [val]
    | succ i => rw [rd_succ]; exact ih i
theorem val_take (l : List Int) (i : Nat) : val l = val (l.take i) + B i * val (l.drop i) := by
  induction l generalizing i with
  | nil => simp [val]
  | cons d l ih =>
    cases i with
    | zero => simp [val, B]
    | succ i =>
      have := ih i
      simp only [List.take_succ_cons, List.drop_succ_cons, val]
      rw [B_succ]
      grind
theorem val_set (l : List Int) (i : Nat) (x : Int) (h : i < l.length) : val (l.set i x) = val l + B i * (x - rd l (i : Int)) := by
  induction l generalizing i with
  | nil => simp at h
  | cons d l ih =>
    cases i with
    | zero => rw [rd_zero]; simp only [List.set_cons_zero, val, B_zero]; omega
    | succ i =>
      rw [rd_succ]
      simp only [List.set_cons_succ, val]
      rw [ih i (by simpa using h), B_succ]
      grind
theorem val_append (l : List Int) (x : Int) : val (l ++ [x]) = val l + B l.length * x := by
  induction l with
  | nil => simp [val, B]
  | cons d l ih =>
    simp only [List.cons_append, val, List.length_cons]
    rw [ih, B_succ]
    grind
theorem val_take_lt {l : List Int} (h : Dig l) (i : Nat) : val (l.take i) < B i := by
  by_cases hi : i ≤ l.length
  · have := val_lt (h.take i); rwa [List.length_take, Nat.min_eq_left hi] at this
  · rw [List.take_of_length_le (by omega)]
    refine Int.lt_of_lt_of_le (val_lt h) ?_
    have : ∀ n m, n ≤ m → B n ≤ B m := by
      intro n m hnm
      induction hnm with
      | refl => omega
      | step _ ih => rw [B_succ]; have := B_pos n; omega
    exact this _ _ (by omega)

/-! ### digits -/
def digs : Nat → Nat → List Int
  | 0, _ => []
  | m + 1, n => ((n % 65536 : Nat) : Int) :: digs m (n / 65536)
theorem digs_len (m n : Nat) : (digs m n).length = m := by
  induction m generalizing n with
  | zero => rfl
  | succ m ih => simp [digs, ih]
theorem digs_dig (m n : Nat) : Dig (digs m n) := by
  induction m generalizing n with
  | zero => exact Dig.nil
  | succ m ih => exact Dig.cons (by omega) (by omega) (ih _)
theorem digs_val (m n : Nat) (h : n < 65536 ^ m) : val (digs m n) = n := by
  induction m generalizing n with
  | zero => simp at h; subst h; rfl
  | succ m ih =>
    have : n / 65536 < 65536 ^ m := by rw [Nat.div_lt_iff_lt_mul (by omega)]; rwa [Nat.pow_succ] at h
    simp only [digs, val]
    rw [ih _ this]
    omega

theorem digits_l0 (b : Bool) : ∀ (d i k : Nat) (x : Int) (acc : List Int), d + i = 5 → acc.length = i → -9223372036854775808 ≤ x → x ≤ 9223372036854775807 → d < k →
    celluloidref01_digits.l0 k x b acc (i : Int) = some (acc ++ digs d x.natAbs, b) := by
  intro d
  induction d with
  | zero =>
    intro i k x acc h1 h2 h3 h4 hk
    obtain ⟨k, rfl⟩ : ∃ m, k = m + 1 := ⟨k - 1, by omega⟩
    simp only [celluloidref01_digits.l0]
    rw [if_neg (by omega)]; simp [digs]
  | succ d ih =>
    intro i k x acc h1 h2 h3 h4 hk
    obtain ⟨k, rfl⟩ : ∃ m, k = m + 1 := ⟨k - 1, by omega⟩
    have hd := Int.tdiv_mul_add_tmod x 65536
    have e2 : Int.tdiv x 65536 = if x < 0 then -((x.natAbs / 65536 : Nat) : Int) else ((x.natAbs / 65536 : Nat) : Int) := by
      by_cases h : x < 0
      · rw [if_pos h]
        have : x = -((x.natAbs : Nat) : Int) := by omega
        rw [this, Int.neg_tdiv, Int.natAbs_neg, Int.natAbs_natCast, Int.tdiv_eq_ediv_of_nonneg (by omega), Int.natCast_ediv]; rfl
      · rw [if_neg h, Int.tdiv_eq_ediv_of_nonneg (by omega)]; omega
    simp only [celluloidref01_digits.l0]
    rw [if_pos (by omega), w64_id (n := (i : Int) + 1) (by omega) (by omega)]
    have e3 : (i : Int) + 1 = ((i + 1 : Nat) : Int) := by omega
    have e4 : wrap64 (Int.tdiv x 65536) = Int.tdiv x 65536 := w64_id (by rw [e2]; split <;> omega) (by rw [e2]; split <;> omega)
    have e5 : (Int.tdiv x 65536).natAbs = x.natAbs / 65536 := by rw [e2]; split <;> omega
    have go : ∀ y : Int, y = ((x.natAbs % 65536 : Nat) : Int) → celluloidref01_digits.l0 k (Int.tdiv x 65536) b (acc ++ [y]) ((i + 1 : Nat) : Int) = some (acc ++ digs (d + 1) x.natAbs, b) := by
      intro y hy
      rw [ih (i + 1) k _ (acc ++ [y]) (by omega) (by simp [h2]) (by rw [e2]; split <;> omega) (by rw [e2]; split <;> omega) (by omega), e5]
      simp [digs, hy]
    rw [e3, e4]
    by_cases h : Int.tmod x 65536 < 0
    · rw [if_pos h, if_pos (by omega)]
      have hm : wrap64 (-(Int.tmod x 65536)) = ((x.natAbs % 65536 : Nat) : Int) := by
        have h6 : Int.tmod x 65536 = x - Int.tdiv x 65536 * 65536 := by omega
        have hx : x < 0 := by
          rcases Int.lt_or_le x 0 with hx | hx
          · exact hx
          · rw [e2, if_neg (by omega)] at h6; omega
        rw [e2, if_pos hx] at h6
        rw [h6]; unfold wrap64; omega
      exact go _ hm
    · rw [if_neg h, if_pos (by omega)]
      have hm : Int.tmod x 65536 = ((x.natAbs % 65536 : Nat) : Int) := by
        have h6 : Int.tmod x 65536 = x - Int.tdiv x 65536 * 65536 := by omega
        by_cases hx : x < 0
        · rw [e2, if_pos hx] at h6; omega
        · rw [e2, if_neg hx] at h6; omega
      exact go _ hm

theorem digits_eq {a : Int} (ha : I64 a) (k : Nat) (hk : 10 ≤ k) : celluloidref01_digits.f k a = some (digs 5 a.natAbs, decide (a < 0)) := by
  unfold I64 at ha
  unfold celluloidref01_digits.f
  have := digits_l0 (decide (a < 0)) 5 0 k a [] (by omega) rfl (by omega) (by omega) (by omega)
  exact this

/-! ### nought -/
theorem val_eq_zero {l : List Int} (h : Dig l) : val l = 0 ↔ ∀ j : Nat, rd l (j : Int) = 0 := by
  induction l with
  | nil => simp [val, rd_nil]
  | cons d l ih =>
    have h1 := h.head; have h2 := val_nonneg h.tail
    simp only [val]
    constructor
    · intro e j
      cases j with
      | zero => rw [rd_zero]; omega
      | succ j => rw [rd_succ]; exact (ih h.tail).mp (by omega) j
    · intro e
      have e0 := e 0; rw [rd_zero] at e0
      have := (ih h.tail).mpr (fun j => by have := e (j + 1); rwa [rd_succ] at this)
      omega

theorem nought_l0 {l : List Int} (hd : Dig l) (hl : l.length ≤ 1000) : ∀ (d i k : Nat), d + i = l.length → d < k → celluloidref01_nought.l0 k l (i : Int) = some (decide (val (l.drop i) = 0)) := by
  intro d
  induction d with
  | zero =>
    intro i k h hk
    obtain ⟨k, rfl⟩ : ∃ m, k = m + 1 := ⟨k - 1, by omega⟩
    simp only [celluloidref01_nought.l0]
    rw [if_neg (by omega), List.drop_of_length_le (by omega)]; rfl
  | succ d ih =>
    intro i k h hk
    obtain ⟨k, rfl⟩ : ∃ m, k = m + 1 := ⟨k - 1, by omega⟩
    simp only [celluloidref01_nought.l0]
    have hv := val_drop l i
    have h1 := hd i
    have h2 := val_nonneg (hd.drop (i + 1))
    rw [if_pos (by omega), if_pos (by omega), w64_id (by omega) (by omega), show (i : Int) + 1 = ((i + 1 : Nat) : Int) by omega]
    by_cases h0 : rd l (i : Int) = 0
    · rw [if_pos h0, ih (i + 1) k (by omega) (by omega)]
      congr 1; rw [decide_eq_decide]; omega
    · rw [if_neg h0, decide_eq_false (by omega)]

theorem nought_eq {l : List Int} (hd : Dig l) (hl : l.length ≤ 1000) (k : Nat) (hk : 2000 ≤ k) : celluloidref01_nought.f k l = some (decide (val l = 0)) := by
  unfold celluloidref01_nought.f
  exact nought_l0 hd hl l.length 0 k (by omega) (by omega)

/-! ### times -/
theorem times_l1 {a b : List Int} (ha : Dig a) (hb : Dig b) (hla : a.length ≤ 1000) (hlb : b.length ≤ 1000) {i : Nat} (hi : i < a.length) :
    ∀ (d t k : Nat) (l : List Int) (left : Int), d + t = b.length → l.length = a.length + b.length → Dig l → (∀ j, i + b.length ≤ j → rd l (j : Nat) = 0) → 0 ≤ left → left < 65536 →
      ∃ l', celluloidref01_times.l1 (k + d + 1) a b l (i : Int) left (t : Int) = celluloidref01_times.l0 k a b l' ((i + 1 : Nat) : Int) ∧ l'.length = a.length + b.length ∧ Dig l' ∧ (∀ j, i + 1 + b.length ≤ j → rd l' (j : Nat) = 0) ∧
        val l' = val l + B (i + t) * (left + rd a (i : Int) * val (b.drop t)) := by
  intro d
  induction d with
  | zero =>
    intro t k l left h hl hd hz h0 h1
    have ht : t = b.length := by omega
    subst ht
    have hz0 := hz (i + b.length) (by omega)
    refine ⟨l.set (i + b.length) left, ?_, by simp [hl], hd.set _ h0 h1, ?_, ?_⟩
    · simp only [celluloidref01_times.l1]
      rw [if_neg (by omega), w64_id (n := (i : Int) + (b.length : Int)) (by omega) (by omega), show (i : Int) + (b.length : Int) = ((i + b.length : Nat) : Int) by omega,
        if_pos (by omega), if_pos (by omega), hz0, Int.zero_add, w64_id (n := left) (by omega) (by omega), w64_id (n := (i : Int) + 1) (by omega) (by omega), show (i : Int) + 1 = ((i + 1 : Nat) : Int) by omega]
      rfl
    · intro j hj
      rw [rd_set, if_neg (by omega)]; exact hz j (by omega)
    · rw [val_set _ _ _ (by omega), hz0, List.drop_of_length_le (Nat.le_refl _)]
      simp [val]
  | succ d ih =>
    intro t k l left h hl hd hz h0 h1
    have d1 := hd (i + t); have d2 := ha i; have d3 := hb t
    have hp : 0 ≤ rd a (i : Int) * rd b (t : Int) ∧ rd a (i : Int) * rd b (t : Int) ≤ 4294836225 := by
      refine ⟨Int.mul_nonneg d2.1 d3.1, ?_⟩
      have : rd a (i : Int) * rd b (t : Int) ≤ 65535 * 65535 := Int.mul_le_mul (by omega) (by omega) d3.1 (by omega)
      omega
    have hv := val_drop b t
    obtain ⟨p, hpe⟩ : ∃ p, p = rd a (i : Int) * rd b (t : Int) := ⟨_, rfl⟩
    obtain ⟨n, hn⟩ : ∃ n, n = rd l ((i + t : Nat) : Int) + p + left := ⟨_, rfl⟩
    rw [← hpe] at hp
    obtain ⟨l', e1, e2, e3, e4, e5⟩ := ih (t + 1) k (l.set (i + t) (n % 65536)) (n / 65536) (by omega) (by simp [hl]) (hd.set _ (by omega) (by omega))
      (fun j hj => by rw [rd_set, if_neg (by omega)]; exact hz j hj) (by omega) (by omega)
    refine ⟨l', ?_, e2, e3, e4, ?_⟩
    · rw [← e1, show k + (d + 1) + 1 = (k + d + 1) + 1 by omega]
      simp only [celluloidref01_times.l1]
      rw [if_pos (by omega), w64_id (n := (i : Int) + (t : Int)) (by omega) (by omega), show (i : Int) + (t : Int) = ((i + t : Nat) : Int) by omega,
        if_pos (by omega), if_pos (by omega), if_pos (by omega), if_pos (by omega), if_pos (by omega), ← hpe, w64_id (n := p) (by omega) (by omega),
        w64_id (n := rd l ((i + t : Nat) : Int) + p) (by omega) (by omega), w64_id (n := rd l ((i + t : Nat) : Int) + p + left) (by omega) (by omega), ← hn,
        Int.tdiv_eq_ediv_of_nonneg (by omega), Int.tmod_eq_emod_of_nonneg (by omega), w64_id (n := n / 65536) (by omega) (by omega), w64_id (n := (t : Int) + 1) (by omega) (by omega), show (t : Int) + 1 = ((t + 1 : Nat) : Int) by omega, Int.toNat_natCast]
    · rw [e5, val_set _ _ _ (by omega), hv, show i + (t + 1) = (i + t) + 1 by omega, B_succ]
      have hdm : n = 65536 * (n / 65536) + n % 65536 := by omega
      generalize n / 65536 = q at *
      generalize n % 65536 = r at *
      generalize val (b.drop (t + 1)) = V at *
      generalize B (i + t) = P at *
      grind

theorem times_l0 {a b : List Int} (ha : Dig a) (hb : Dig b) (hla : a.length ≤ 1000) (hlb : b.length ≤ 1000) :
    ∀ (d i k : Nat) (l : List Int), d + i = a.length → l.length = a.length + b.length → Dig l → (∀ j, i + b.length ≤ j → rd l (j : Nat) = 0) →
      ∃ l', celluloidref01_times.l0 (k + d * (b.length + 2) + 1) a b l (i : Int) = some l' ∧ l'.length = a.length + b.length ∧ Dig l' ∧ val l' = val l + B i * (val (a.drop i) * val b) := by
  intro d
  induction d with
  | zero =>
    intro i k l h hl hd hz
    refine ⟨l, ?_, hl, hd, ?_⟩
    · simp only [celluloidref01_times.l0]; rw [if_neg (by omega)]
    · rw [List.drop_of_length_le (by omega)]; simp [val]
  | succ d ih =>
    intro i k l h hl hd hz
    obtain ⟨l1, e1, e2, e3, e4, e5⟩ := times_l1 ha hb hla hlb (i := i) (by omega) b.length 0 (k + d * (b.length + 2) + 1) l 0 (by omega) hl hd hz (by omega) (by omega)
    obtain ⟨l', f1, f2, f3, f4⟩ := ih (i + 1) k l1 (by omega) e2 e3 e4
    refine ⟨l', ?_, f2, f3, ?_⟩
    · rw [← f1, ← e1, show k + (d + 1) * (b.length + 2) + 1 = (k + d * (b.length + 2) + 1 + b.length + 1) + 1 by rw [Nat.add_mul]; omega]
      simp only [celluloidref01_times.l0]
      rw [if_pos (by omega)]; rfl
    · have hv := val_drop a i
      rw [f4, e5, hv, B_succ, Nat.add_zero, List.drop_zero, Int.zero_add]
      generalize val (a.drop (i + 1)) = V at *
      generalize B i = P at *
      grind

theorem times_list {a b : List Int} (ha : Dig a) (hb : Dig b) (hla : a.length ≤ 1000) (hlb : b.length ≤ 1000) (k : Nat) (hk : 1100000 ≤ k) :
    ∃ l, celluloidref01_times.f k a b = some l ∧ l.length = a.length + b.length ∧ Dig l ∧ val l = val a * val b := by
  have hb1 : a.length * (b.length + 2) ≤ 1000 * 1002 := Nat.mul_le_mul hla (by omega)
  obtain ⟨l, e1, e2, e3, e4⟩ := times_l0 ha hb hla hlb a.length 0 (k - a.length * (b.length + 2) - 1) (List.replicate (a.length + b.length) 0) (by omega) (by simp) (Dig.zeros _)
    (fun j _ => by have := (val_eq_zero (Dig.zeros (a.length + b.length))).mp (val_zeros _) j; exact this)
  refine ⟨l, ?_, e2, e3, ?_⟩
  · unfold celluloidref01_times.f
    rw [w64_id (by omega) (by omega), if_pos (by omega), if_pos (by omega), ← e1, show ((a.length : Int) + (b.length : Int)).toNat = a.length + b.length by omega,
      show k - a.length * (b.length + 2) - 1 + a.length * (b.length + 2) + 1 = k by omega]
    rfl
  · rw [e4, val_zeros, B_zero]; simp

/-! ### product -/
theorem natAbs_lt {a : Int} (ha : I64 a) : a.natAbs < 65536 ^ 5 := by
  unfold I64 at ha
  have : (65536 : Nat) ^ 5 = 1208925819614629174706176 := by decide
  rw [this]; omega

theorem product_eq {a b : Int} (ha : I64 a) (hb : I64 b) (k : Nat) (hk : 1100000 ≤ k) :
    ∃ l, celluloidref01_product.f k a b = some (l, decide (a * b < 0)) ∧ l.length = 10 ∧ Dig l ∧ val l = ((a * b).natAbs : Int) := by
  obtain ⟨l, e1, e2, e3, e4⟩ := times_list (digs_dig 5 a.natAbs) (digs_dig 5 b.natAbs) (by rw [digs_len]; omega) (by rw [digs_len]; omega) k hk
  rw [digs_len, digs_len] at e2
  rw [digs_val 5 _ (natAbs_lt ha), digs_val 5 _ (natAbs_lt hb), ← Int.natCast_mul, ← Int.natAbs_mul] at e4
  refine ⟨l, ?_, e2, e3, e4⟩
  unfold celluloidref01_product.f
  rw [digits_eq ha k (by omega), Option.bind_some, digits_eq hb k (by omega), Option.bind_some, e1, Option.bind_some]
  have hs : (decide (a < 0) != decide (b < 0)) = true ↔ ¬ (a < 0 ↔ b < 0) := by
    by_cases x : a < 0 <;> by_cases y : b < 0 <;> simp [x, y]
  by_cases h : (decide (a < 0) != decide (b < 0)) = true
  · rw [if_pos h, nought_eq e3 (by omega) k (by omega), Option.bind_some, e4]
    have hs' := hs.mp h
    have : (!decide (((a * b).natAbs : Int) = 0)) = decide (a * b < 0) := by
      rw [Bool.eq_iff_iff]
      simp only [Bool.not_eq_true', decide_eq_false_iff_not, decide_eq_true_eq]
      have hle : a * b ≤ 0 := by
        by_cases x : a < 0
        · exact Int.mul_nonpos_of_nonpos_of_nonneg (by omega) (by omega)
        · exact Int.mul_nonpos_of_nonneg_of_nonpos (by omega) (by omega)
      omega
    rw [this]
  · rw [if_neg h]
    have hs' : (a < 0 ↔ b < 0) := by
      by_cases x : a < 0 <;> by_cases y : b < 0 <;> simp [x, y] at h ⊢
    have hge : 0 ≤ a * b := by
      by_cases x : a < 0
      · exact Int.mul_nonneg_of_nonpos_of_nonpos (by omega) (by omega)
      · exact Int.mul_nonneg (by omega) (by omega)
    rw [decide_eq_false (show ¬ a * b < 0 by omega)]

/-! ### order -/
def cmpV (x y : Int) : Int := if x < y then -1 else if y < x then 1 else 0
theorem order_l0 {a b : List Int} (ha : Dig a) (hb : Dig b) (hl : a.length = b.length) (h1000 : a.length ≤ 1000) :
    ∀ (i k : Nat), i ≤ a.length → val (a.drop i) = val (b.drop i) → i < k → celluloidref01_order.l0 k a b ((i : Int) - 1) = some (cmpV (val a) (val b)) := by
  intro i
  induction i with
  | zero =>
    intro k _ h hk
    obtain ⟨k, rfl⟩ : ∃ m, k = m + 1 := ⟨k - 1, by omega⟩
    simp only [celluloidref01_order.l0]
    simp only [List.drop_zero] at h
    rw [if_neg (by omega), h]; unfold cmpV; rw [if_neg (by omega), if_neg (by omega)]
  | succ i ih =>
    intro k hi h hk
    obtain ⟨k, rfl⟩ : ∃ m, k = m + 1 := ⟨k - 1, by omega⟩
    have va := val_drop a i; have vb := val_drop b i
    have ta := val_take a i; have tb := val_take b i
    have la := val_take_lt ha i; have lb := val_take_lt hb i
    have na := val_nonneg (ha.take i); have nb := val_nonneg (hb.take i)
    have key : ∀ x y : Int, x + 1 ≤ y → B i * x + B i ≤ B i * y := by
      intro x y hxy
      have := Int.mul_le_mul_of_nonneg_left hxy (Int.le_of_lt (B_pos i))
      rw [Int.mul_add, Int.mul_one] at this; exact this
    simp only [celluloidref01_order.l0]
    rw [show ((i + 1 : Nat) : Int) - 1 = (i : Int) by omega, if_pos (by omega), if_pos (by omega), if_pos (by omega), if_pos (by omega)]
    by_cases h1 : rd a (i : Int) < rd b (i : Int)
    · have := key (val (a.drop i)) (val (b.drop i)) (by omega)
      rw [if_pos h1]; unfold cmpV; rw [if_pos (by omega)]
    · rw [if_neg h1]
      by_cases h2 : rd a (i : Int) > rd b (i : Int)
      · have := key (val (b.drop i)) (val (a.drop i)) (by omega)
        rw [if_pos h2]; unfold cmpV; rw [if_neg (by omega), if_pos (by omega)]
      · rw [if_neg h2, w64_id (by omega) (by omega)]
        exact ih k (by omega) (by omega) (by omega)

theorem order_eq {a b : List Int} (ha : Dig a) (hb : Dig b) (hl : a.length = b.length) (h1000 : a.length ≤ 1000) (k : Nat) (hk : 1100000 ≤ k) :
    celluloidref01_order.f k a b = some (cmpV (val a) (val b)) := by
  unfold celluloidref01_order.f
  rw [w64_id (by omega) (by omega)]
  exact order_l0 ha hb hl h1000 a.length k (Nat.le_refl _) (by rw [List.drop_of_length_le (Nat.le_refl _), List.drop_of_length_le (by omega)]) (by omega)
end Go.Proofs.Ytemhfkjdapegoaa.P
