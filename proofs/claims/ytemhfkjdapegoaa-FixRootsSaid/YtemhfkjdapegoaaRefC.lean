/- The document's answers of layer 1: the floor of a product by a number, the product, the sum, the order, the rounded quotient and the root. -/
import Derived.Test.YtemhfkjdapegoaaRefB
import Derived.Test.YtemhfkjdapegoaaPx5
import Derived.Test.YtemhfkjdapegoaaPx7
import Derived.Test.YtemhfkjdapegoaaPx6
import Derived.Test.YtemhfkjdapegoaaPx8
namespace Go.Proofs.Ytemhfkjdapegoaa.P
open Go.RowKit Go.Proofs.YtemhfkjdapegoaaW.PrintWords Go.Proofs.YtemhfkjdapegoaaW.PrintLast Go.Proofs.YtemhfkjdapegoaaW.PrintMore

theorem ref_muldiv {a b c : Int} (ha : I64 a) (hb : I64 b) (hc : I64 c) (k : Nat) (hk : 1500000 ≤ k) : celluloidref01_MulDiv.f k a b c = some (md a b c) := by
  unfold celluloidref01_MulDiv.f md
  by_cases h0 : c = 0
  · rw [if_pos h0, if_pos h0]
  · rw [if_neg h0, if_neg h0]
    obtain ⟨l, e1, e2, e3, e4⟩ := product_eq ha hb k (by omega)
    have hP := prod_bound ha hb
    generalize a * b = P at *
    have hdv := digs_val 5 _ (natAbs_lt hc)
    obtain ⟨q, f1, f2, f3, f4⟩ := divide_eq (a := l) (b := digs 5 c.natAbs) (D := c.natAbs) e3 (digs_dig _ _) (by omega) (by rw [digs_len]; omega) (by omega) hdv k (by omega)
    rw [e1, Option.bind_some, digits_eq hc k (by omega), Option.bind_some, f1, Option.bind_some]
    simp only
    have hfa := fl_abs (P := P) h0
    rw [e4, ← Int.natCast_ediv] at f4
    have hwhole : decide (val l % (c.natAbs : Int) = 0) = decide (P.natAbs % c.natAbs = 0) := by
      rw [e4, decide_eq_decide]; omega
    rw [hwhole]
    have hqle : P.natAbs / c.natAbs ≤ P.natAbs := Nat.div_le_self _ _
    have hone : ∃ r, celluloidref01_one.f k q = some r ∧ r.length = q.length ∧ Dig r ∧ val r = val q + 1 := by
      refine one_eq f3 (by omega) ?_ k (by omega)
      have hB : B q.length = 1461501637330902918203684832716283019655932542976 := by rw [f2, e2]; decide
      rw [hB, f4]; omega
    have hd := Nat.div_add_mod P.natAbs c.natAbs
    generalize P.natAbs / c.natAbs = Q at *
    generalize P.natAbs % c.natAbs = R at *
    obtain ⟨k1, hk1⟩ : ∃ m, k = m + 2 := ⟨k - 2, by omega⟩
    -- below nought: rounded down
    have jt : ∀ bb : Bool, celluloidref01_MulDiv.j0 k q bb true = some (num (if bb then -(Q : Int) else -(Q : Int) - 1)) := by
      intro bb
      obtain ⟨r, r1, r2, r3, r4⟩ := hone
      subst hk1
      simp only [celluloidref01_MulDiv.j0, if_true, celluloidref01_MulDiv.j1]
      have rk : celluloidref01_one.f k1 q = some r := by
        obtain ⟨r', s1, s2, s3, s4⟩ := one_eq f3 (by omega) (by have := val_lt r3; rw [r2, r4] at this; exact this) k1 (by omega)
        have m1 := at_rounds (fun n => celluloidref01_one.mono q n) (show k1 ≤ k1 + 2 by omega) s1
        rw [r1] at m1; rw [s1, m1]
      cases bb with
      | true =>
        rw [if_neg (by simp), number_eq f3 (by omega) true k1 (by omega), Option.bind_some, f4]
        rfl
      | false =>
        rw [if_pos (by simp), rk, Option.bind_some, number_eq r3 (by omega) true k1 (by omega), Option.bind_some, r4, f4]
        simp only [if_true, Bool.false_eq_true, if_false]
        rw [show -((Q : Int) + 1) = -(Q : Int) - 1 by omega]
    have jf : ∀ bb : Bool, celluloidref01_MulDiv.j0 k q bb false = some (num (Q : Int)) := by
      intro bb
      subst hk1
      simp only [celluloidref01_MulDiv.j0]
      rw [if_neg (by simp)]
      simp only [celluloidref01_MulDiv.j1]
      rw [if_neg (by simp), number_eq f3 (by omega) false k1 (by omega), Option.bind_some, f4]
      rfl
    have hQ0 : P = 0 → Q = 0 ∧ R = 0 := by
      intro h
      have : c.natAbs * Q + R = 0 := by omega
      have h1 : c.natAbs * Q = 0 := by omega
      rcases Nat.mul_eq_zero.mp h1 with h2 | h2
      · omega
      · omega
    by_cases hs : (decide (P < 0) != decide (c < 0)) = true
    · have hs' : ¬ (P < 0 ↔ c < 0) := by
        by_cases x : P < 0 <;> by_cases y : c < 0 <;> simp [x, y] at hs ⊢
      rw [if_pos hs, nought_eq e3 (by omega) k (by omega), Option.bind_some, e4, hfa, if_neg hs']
      by_cases hz : P = 0
      · obtain ⟨z1, z2⟩ := hQ0 hz
        rw [decide_eq_true (show (P.natAbs : Int) = 0 by omega)]
        rw [show (!true) = false from rfl, jf, if_pos z2, z1]; rfl
      · rw [decide_eq_false (show ¬ (P.natAbs : Int) = 0 by omega)]
        rw [show (!false) = true from rfl, jt]
        by_cases hr : R = 0
        · rw [if_pos hr, decide_eq_true hr]; rfl
        · rw [if_neg hr, decide_eq_false hr]; rfl
    · have hs' : (P < 0 ↔ c < 0) := by
        by_cases x : P < 0 <;> by_cases y : c < 0 <;> simp [x, y] at hs ⊢
      rw [if_neg hs, hfa, if_pos hs', jf]

theorem neg_natAbs (P : Int) : (if decide (P < 0) = true then -(P.natAbs : Int) else (P.natAbs : Int)) = P := by
  by_cases h : P < 0
  · rw [if_pos (decide_eq_true h)]; omega
  · rw [if_neg (by simpa using h)]; omega

theorem ref_mul {a b : Int} (ha : I64 a) (hb : I64 b) (k : Nat) (hk : 1500000 ≤ k) : celluloidref01_Mul.f k a b = some (num (a * b)) := by
  unfold celluloidref01_Mul.f
  obtain ⟨l, e1, e2, e3, e4⟩ := product_eq ha hb k (by omega)
  rw [e1, Option.bind_some, number_eq e3 (by omega) _ k (by omega), Option.bind_some, e4, neg_natAbs]

theorem ref_compare {a b c d : Int} (ha : I64 a) (hb : I64 b) (hc : I64 c) (hd : I64 d) (k : Nat) (hk : 1500000 ≤ k) : celluloidref01_Compare.f k a b c d = some (cmpS (a * b) (c * d)) := by
  unfold celluloidref01_Compare.f
  obtain ⟨l, e1, e2, e3, e4⟩ := product_eq ha hb k (by omega)
  obtain ⟨m, f1, f2, f3, f4⟩ := product_eq hc hd k (by omega)
  rw [e1, Option.bind_some, f1, Option.bind_some]
  generalize a * b = P at *
  generalize c * d = Q at *
  unfold cmpS
  by_cases x : P < 0
  · by_cases y : Q < 0
    · rw [decide_eq_true x, decide_eq_true y, if_neg (by simp), if_pos rfl, order_eq f3 e3 (by omega) (by omega) k (by omega), Option.bind_some, e4, f4]
      unfold cmpV
      by_cases h : P < Q
      · rw [if_pos h, if_pos (by omega)]
      · by_cases h' : Q < P
        · rw [if_neg h, if_pos h', if_neg (by omega), if_pos (by omega)]
        · rw [if_neg h, if_neg h', if_neg (by omega), if_neg (by omega)]
    · rw [decide_eq_true x, decide_eq_false y, if_pos (by simp), if_pos rfl, if_pos (by omega)]
  · by_cases y : Q < 0
    · rw [decide_eq_false x, decide_eq_true y, if_pos (by simp), if_neg (by simp), if_neg (by omega), if_pos (by omega)]
    · rw [decide_eq_false x, decide_eq_false y, if_neg (by simp), if_neg (by simp), order_eq e3 f3 (by omega) (by omega) k (by omega), Option.bind_some, e4, f4]
      unfold cmpV
      by_cases h : P < Q
      · rw [if_pos h, if_pos (by omega)]
      · by_cases h' : Q < P
        · rw [if_neg h, if_pos h', if_neg (by omega), if_pos (by omega)]
        · rw [if_neg h, if_neg h', if_neg (by omega), if_neg (by omega)]

theorem half_t (a : Int) : ∃ h r, Int.tdiv a 2 = h ∧ Int.tmod a 2 = r ∧ a = 2 * h + r ∧ (0 ≤ a → 0 ≤ r ∧ r ≤ 1) ∧ (a ≤ 0 → -1 ≤ r ∧ r ≤ 0) := by
  refine ⟨_, _, rfl, rfl, ?_, ?_, ?_⟩
  · have := Int.tdiv_mul_add_tmod a 2; omega
  · intro h; rw [Int.tmod_eq_emod_of_nonneg h]; omega
  · intro h
    have : a = -(-a) := by omega
    rw [this, Int.neg_tmod, Int.tmod_eq_emod_of_nonneg (by omega)]; omega

theorem ref_add {a b : Int} (ha : I64 a) (hb : I64 b) (k : Nat) (hk : 1 ≤ k) : celluloidref01_Add.f k a b = some (num (a + b)) := by
  obtain ⟨k, rfl⟩ : ∃ m, k = m + 1 := ⟨k - 1, by omega⟩
  unfold I64 at ha hb
  obtain ⟨x, r, x1, x2, x3, x4, x5⟩ := half_t a
  obtain ⟨y, s, y1, y2, y3, y4, y5⟩ := half_t b
  have hr : -1 ≤ r ∧ r ≤ 1 := by
    rcases Int.le_total 0 a with h | h
    · have := x4 h; omega
    · have := x5 h; omega
  have hs : -1 ≤ s ∧ s ≤ 1 := by
    rcases Int.le_total 0 b with h | h
    · have := y4 h; omega
    · have := y5 h; omega
  unfold celluloidref01_Add.f
  rw [x1, x2, y1, y2, w64_id (n := r + s) (by omega) (by omega)]
  obtain ⟨z, u, z1, z2, z3, z4, z5⟩ := half_t (r + s)
  have hu : -1 ≤ u ∧ u ≤ 1 := by
    rcases Int.le_total 0 (r + s) with h | h
    · have := z4 h; omega
    · have := z5 h; omega
  rw [z1, z2]
  have e : wrap64 (wrap64 (wrap64 x + wrap64 y) + wrap64 z) = x + y + z := by
    rw [w64_id (n := x) (by omega) (by omega), w64_id (n := y) (by omega) (by omega), w64_id (n := z) (by omega) (by omega), w64_id (n := x + y) (by omega) (by omega), w64_id (by omega) (by omega)]
  rw [e]
  obtain ⟨h, hh⟩ : ∃ h, h = x + y + z := ⟨_, rfl⟩
  rw [← hh]
  have hab : a + b = 2 * h + u := by omega
  rw [hab]
  have key : ∀ c : Bool, (c = true → ¬ I64 (2 * h + u)) → (c = false → -9223372036854775808 ≤ 2 * h + u ∧ h ≤ 4611686018427387903 ∧ -4611686018427387904 ≤ h) → celluloidref01_Add.j0 (k + 1) h u c = some (num (2 * h + u)) := by
    intro c h1 h2
    simp only [celluloidref01_Add.j0]
    cases c with
    | true => rw [if_pos rfl, num_no (h1 rfl)]
    | false =>
      have h3 := h2 rfl
      rw [if_neg (by simp)]
      by_cases g : h = 4611686018427387903
      · rw [if_pos g, if_neg (by omega), w64_id (n := 2 * h) (by omega) (by omega), w64_id (by omega) (by omega), num_yes (by unfold I64; omega)]
      · rw [if_neg g, w64_id (n := 2 * h) (by omega) (by omega), w64_id (by omega) (by omega), num_yes (by unfold I64; omega)]
  have hpar : u ≠ 0 → True := fun _ => trivial
  by_cases g1 : h > 4611686018427387903
  · rw [if_pos g1]; exact key true (fun _ => by unfold I64; omega) (fun h => by cases h)
  · rw [if_neg g1]
    by_cases g2 : h < -4611686018427387904
    · rw [if_pos g2]; exact key true (fun _ => by unfold I64; omega) (fun h => by cases h)
    · rw [if_neg g2]
      by_cases g3 : h = -4611686018427387904
      · rw [if_pos g3]; exact key _ (fun h => by unfold I64; have := of_decide_eq_true h; omega) (fun h => by have := of_decide_eq_false h; omega)
      · rw [if_neg g3]; exact key false (fun h => by cases h) (fun _ => by omega)

theorem ref_round {a b : Int} (ha : I64 a) (hb : I64 b) (k : Nat) (hk : 1500000 ≤ k) : celluloidref01_Round.f k a b = some (rd2 a b) := by
  unfold celluloidref01_Round.f rd2
  rw [ref_muldiv ha (by unfold I64; omega) hb k hk, Option.bind_some]
  unfold md
  rw [Int.mul_one]
  by_cases h0 : b = 0
  · rw [if_pos h0, if_pos h0]; simp
  · rw [if_neg h0, if_neg h0]
    obtain ⟨m, e, e1, e2, e3⟩ := rnd_left (a := a) h0
    by_cases hf : I64 (fl a b)
    · rw [num_yes hf, if_pos rfl]
      have hm : -9223372036854775808 < m ∧ m ≤ 9223372036854775807 := by
        unfold I64 at hb
        rcases Int.lt_or_gt_of_ne h0 with h | h
        · have := e2 h; omega
        · have := e1 h; omega
      have hov : wrap64 (a - wrap64 (fl a b * b)) = m := by
        generalize fl a b * b = z at *
        unfold wrap64; omega
      simp only
      rw [hov, ref_compare (by unfold I64; omega) (by unfold I64; omega) hb (by unfold I64; omega) k hk, Option.bind_some, Option.bind_some, ref_add hf (by unfold I64; omega) k (by omega), Option.bind_some, e3]
      unfold I64 at hb
      rcases Int.lt_or_gt_of_ne h0 with h | h
      · have := e2 h
        by_cases g : b.natAbs ≤ 2 * m.natAbs
        · have hc : cmpS (m * 2) (b * 1) ≤ 0 := by unfold cmpS; split; omega; split <;> omega
          rw [if_pos g]
          by_cases g0 : cmpS (m * 2) (b * 1) ≥ 0
          · rw [if_pos g0, if_neg (by omega), if_pos hc, if_pos h]
          · rw [if_neg g0, if_pos hc, if_pos h]
        · have hc : cmpS (m * 2) (b * 1) = 1 := by unfold cmpS; rw [if_neg (by omega), if_pos (by omega)]
          rw [if_neg g, hc, if_pos (by omega), if_neg (by omega), if_neg (by omega), num_yes hf]
      · have := e1 h
        by_cases g : b.natAbs ≤ 2 * m.natAbs
        · have hc : cmpS (m * 2) (b * 1) ≥ 0 := by unfold cmpS; rw [if_neg (by omega)]; split <;> omega
          rw [if_pos g, if_pos hc, if_pos h]
        · have hc : cmpS (m * 2) (b * 1) = -1 := by unfold cmpS; rw [if_pos (by omega)]
          rw [if_neg g, hc, if_neg (by omega), if_pos (by omega), if_neg (by omega), num_yes hf]
    · rw [num_no hf, if_neg (by simp)]
      obtain ⟨r1, r2⟩ := fl_over ha hb h0 hf
      subst r1; subst r2
      have : ¬ I64 (rnd (-9223372036854775808) (-1)) := by decide
      rw [num_no this]

theorem refroot_l0 (n : Int) (hn : n ≤ 9223372036854775807) : ∀ (t : Nat), t ≤ 32 → ∀ (r k : Nat), (0 ≤ n → (r : Int) * r ≤ n) → (n < 0 → r = 0) → n < ((r : Int) + (2 ^ t : Nat)) * (r + (2 ^ t : Nat)) → r ≤ 3037000499 → t + 1 ≤ k →
    celluloidref01_Root.l0 k n (r : Int) (((2 ^ t : Nat) : Int) / 2) = some (isq n.toNat : Int) := by
  intro t
  induction t with
  | zero =>
    intro _ r k h1 h2 h3 h4 hk
    obtain ⟨k, rfl⟩ : ∃ m, k = m + 1 := ⟨k - 1, by omega⟩
    simp only [celluloidref01_Root.l0]
    rw [if_neg (by simp)]
    by_cases hneg : n < 0
    · rw [h2 hneg, show n.toNat = 0 by omega]; rfl
    · obtain ⟨m, rfl⟩ := Int.eq_ofNat_of_zero_le (show 0 ≤ n by omega)
      have g1 := h1 (by omega)
      rw [Int.toNat_natCast, isq_unique (n := m) (r := r) (by rw [← Int.natCast_mul] at g1; omega)]
      rw [Nat.pow_zero] at h3
      have : ((r : Int) + ((1 : Nat) : Int)) * (r + ((1 : Nat) : Int)) = (((r + 1) * (r + 1) : Nat) : Int) := by simp
      rw [this] at h3
      omega
  | succ t ih =>
    intro ht r k h1 h2 h3 h4 hk
    obtain ⟨k, rfl⟩ : ∃ m, k = m + 1 := ⟨k - 1, by omega⟩
    have hp : 2 ^ t ≤ 2147483648 := by
      have : 2 ^ t ≤ 2 ^ 31 := Nat.pow_le_pow_right (by omega) (by omega)
      exact this
    have hp0 := Nat.two_pow_pos t
    have e : ((2 ^ (t + 1) : Nat) : Int) / 2 = ((2 ^ t : Nat) : Int) := by rw [Nat.pow_succ]; omega
    have e2 : ((2 ^ (t + 1) : Nat) : Int) = 2 * ((2 ^ t : Nat) : Int) := by rw [Nat.pow_succ]; omega
    rw [e]
    rw [e2] at h3
    simp only [celluloidref01_Root.l0]
    have ih' := ih (by omega)
    obtain ⟨p, hpp⟩ : ∃ p, p = 2 ^ t := ⟨_, rfl⟩
    rw [← hpp] at hp hp0 h3 ih' ⊢
    rw [if_pos (by omega), w64_id (n := (r : Int) + p) (by omega) (by omega), Int.tdiv_eq_ediv_of_nonneg (by omega), w64_id (n := (p : Int) / 2) (by omega) (by omega)]
    have hsq : 3037000500 ≤ (r : Int) + p → n < ((r : Int) + p) * (r + p) := by
      intro hge
      have : (3037000500 : Int) * 3037000500 ≤ ((r : Int) + p) * (r + p) := Int.mul_le_mul hge hge (by omega) (by omega)
      omega
    by_cases g1 : (r : Int) + p ≤ 3037000499
    · rw [if_pos g1]
      have hb : ((r : Int) + p) * (r + p) ≤ 3037000499 * 3037000499 := Int.mul_le_mul g1 g1 (by omega) (by omega)
      have hb0 : 0 ≤ ((r : Int) + p) * (r + p) := Int.mul_nonneg (by omega) (by omega)
      rw [w64_id (n := ((r : Int) + p) * (r + p)) (by omega) (by omega)]
      by_cases g2 : ((r : Int) + p) * (r + p) ≤ n
      · rw [if_pos g2]
        have hc : ((r + p : Nat) : Int) = (r : Int) + p := by omega
        have hc2 : (r : Int) + p + p = r + 2 * p := by omega
        have := ih' (r + p) k (fun _ => by rw [hc]; exact g2) (fun h => by omega) (by rw [hc, hc2]; exact h3) (by omega) (by omega)
        rw [hc] at this
        exact this
      · rw [if_neg g2]
        exact ih' r k h1 h2 (by omega) h4 (by omega)
    · rw [if_neg g1]
      exact ih' r k h1 h2 (hsq (by omega)) h4 (by omega)

theorem ref_root (n : Int) (hn : n ≤ 9223372036854775807) (k : Nat) (hk : 40 ≤ k) : celluloidref01_Root.f k n = some (isq n.toNat : Int) := by
  unfold celluloidref01_Root.f
  have := refroot_l0 n hn 32 (Nat.le_refl _) 0 k (fun h => by simpa using h) (fun _ => rfl) (by
    have : (((0 : Nat) : Int) + ((2 ^ 32 : Nat) : Int)) * (((0 : Nat) : Int) + ((2 ^ 32 : Nat) : Int)) = 18446744073709551616 := by decide
    rw [this]; omega) (by omega) (by omega)
  exact this
end Go.Proofs.Ytemhfkjdapegoaa.P
