/- The points of a curve: the program's and the document's are one; where they lie. -/
import Derived.Test.YtdhjcfgklbedjaaCurveA
import Derived.Test.YtdhjcfgklbedjaaPx4
import Derived.Test.YtdhjcfgklbedjaaPx5
import Derived.Test.YtdhjcfgklbedjaaPx6
namespace Go.Proofs.Ytdhjcfgklbedjaa.P
open Go.RowKit Go.Proofs.YtdhjcfgklbedjaaW.PrintWords Go.Proofs.YtdhjcfgklbedjaaW.PrintLast Go.Proofs.YtdhjcfgklbedjaaW.PrintMore

/-- A part of the curve at i of n, times n times n. -/
def wy (a b c i n : Int) : Int := a * (n - i) * (n - i) + 2 * b * i * (n - i) + c * i * i
/-- The part of its point. -/
def pt (a b c i n : Int) : Int := 2 * rnd (wy a b c i n) (2 * n * n)

theorem mb {x y B C : Int} (h1 : -B ≤ x) (h2 : x ≤ B) (h3 : 0 ≤ y) (h4 : y ≤ C) : -(B * C) ≤ x * y ∧ x * y ≤ B * C := by
  have a1 : x * y ≤ B * y := Int.mul_le_mul_of_nonneg_right h2 h3
  have a2 : B * y ≤ B * C := Int.mul_le_mul_of_nonneg_left h4 (by omega)
  have a3 : -B * y ≤ x * y := Int.mul_le_mul_of_nonneg_right h1 h3
  rw [Int.neg_mul] at a3
  exact ⟨by omega, by omega⟩

theorem rnd_pos (p : Int) {c : Int} (hc : 0 < c) : rnd p c = (2 * p + c) / (2 * c) := by
  unfold rnd fl; rw [if_pos (by omega)]
theorem rnd_spec (p : Int) {c : Int} (hc : 0 < c) : 2 * (rnd p c * c) ≤ 2 * p + c ∧ 2 * p + c < 2 * (rnd p c * c) + 2 * c := by
  rw [rnd_pos p hc]
  have e := Int.ediv_mul_add_emod (2 * p + c) (2 * c)
  have l1 := Int.emod_nonneg (2 * p + c) (show 2 * c ≠ 0 by omega)
  have l2 := Int.emod_lt_of_pos (2 * p + c) (show 0 < 2 * c by omega)
  generalize (2 * p + c) / (2 * c) = q at *
  have : q * (2 * c) = 2 * (q * c) := by rw [← Int.mul_assoc, Int.mul_comm q 2, Int.mul_assoc]
  omega
theorem rnd_lo {p c lo : Int} (hc : 0 < c) (h : 2 * (lo * c) ≤ 2 * p + c) : lo ≤ rnd p c := by
  obtain ⟨_, s2⟩ := rnd_spec p hc
  have : lo * c < (rnd p c + 1) * c := by rw [Int.add_mul, Int.one_mul]; omega
  have := lt_of_mul hc this
  omega
theorem rnd_hi {p c hi : Int} (hc : 0 < c) (h : 2 * p + c < 2 * (hi * c) + 2 * c) : rnd p c ≤ hi := by
  obtain ⟨s1, _⟩ := rnd_spec p hc
  have : rnd p c * c < (hi + 1) * c := by rw [Int.add_mul, Int.one_mul]; omega
  have := lt_of_mul hc this
  omega

theorem wy_nonneg {a b c i n : Int} (ha : 0 ≤ a) (hb : 0 ≤ b) (hc : 0 ≤ c) (hi : 0 ≤ i) (hn : i ≤ n) : 0 ≤ wy a b c i n := by
  unfold wy
  have h1 : 0 ≤ a * (n - i) * (n - i) := Int.mul_nonneg (Int.mul_nonneg ha (by omega)) (by omega)
  have h2 : 0 ≤ 2 * b * i * (n - i) := Int.mul_nonneg (Int.mul_nonneg (by omega) hi) (by omega)
  have h3 : 0 ≤ c * i * i := Int.mul_nonneg (Int.mul_nonneg hc hi) hi
  omega
theorem wy_lo {a b c i n lo : Int} (ha : lo ≤ a) (hb : lo ≤ b) (hc : lo ≤ c) (hi : 0 ≤ i) (hn : i ≤ n) : lo * (n * n) ≤ wy a b c i n := by
  have h := wy_nonneg (a := a - lo) (b := b - lo) (c := c - lo) (by omega) (by omega) (by omega) hi hn
  have : wy a b c i n = wy (a - lo) (b - lo) (c - lo) i n + lo * (n * n) := by unfold wy; grind
  omega
theorem wy_hi {a b c i n hi' : Int} (ha : a ≤ hi') (hb : b ≤ hi') (hc : c ≤ hi') (hi : 0 ≤ i) (hn : i ≤ n) : wy a b c i n ≤ hi' * (n * n) := by
  have h := wy_nonneg (a := hi' - a) (b := hi' - b) (c := hi' - c) (by omega) (by omega) (by omega) hi hn
  have : wy a b c i n = hi' * (n * n) - wy (hi' - a) (hi' - b) (hi' - c) i n := by unfold wy; grind
  omega

theorem two_nn (n : Int) : 2 * n * n = 2 * (n * n) := Int.mul_assoc _ _ _
theorem nn_pos {n : Int} (h : 1 ≤ n) (h1 : n ≤ 64) : 1 ≤ n * n ∧ n * n ≤ 4096 :=
  ⟨by have := Int.mul_le_mul h h (by omega) (by omega); omega, by have := Int.mul_le_mul h1 h1 (by omega) (by omega); omega⟩

/-- Even bounds of a curve's points bound its pieces' points. -/
theorem pt_lo {a b c i n lo : Int} (ha : 2 * lo ≤ a) (hb : 2 * lo ≤ b) (hc : 2 * lo ≤ c) (hi : 0 ≤ i) (hn : i ≤ n) (h1 : 1 ≤ n) (h2 : n ≤ 64) : 2 * lo ≤ pt a b c i n := by
  unfold pt
  have hp := nn_pos h1 h2
  have := wy_lo ha hb hc hi hn
  have : lo ≤ rnd (wy a b c i n) (2 * n * n) := by
    rw [two_nn]
    generalize n * n = s at *
    have e : 2 * lo * s = lo * (2 * s) := by rw [Int.mul_comm 2 lo, Int.mul_assoc]
    exact rnd_lo (by omega) (by omega)
  omega
theorem pt_hi {a b c i n hi' : Int} (ha : a ≤ 2 * hi') (hb : b ≤ 2 * hi') (hc : c ≤ 2 * hi') (hi : 0 ≤ i) (hn : i ≤ n) (h1 : 1 ≤ n) (h2 : n ≤ 64) : pt a b c i n ≤ 2 * hi' := by
  unfold pt
  have hp := nn_pos h1 h2
  have := wy_hi ha hb hc hi hn
  have : rnd (wy a b c i n) (2 * n * n) ≤ hi' := by
    rw [two_nn]
    generalize n * n = s at *
    have e : 2 * hi' * s = hi' * (2 * s) := by rw [Int.mul_comm 2 hi', Int.mul_assoc]
    exact rnd_hi (by omega) (by omega)
  omega

/-- A number of a curve's points. -/
def Pn (a : Int) : Prop := -16777216 ≤ a ∧ a ≤ 16777216

theorem wy_bd {a b c i n : Int} (ha : Pn a) (hb : Pn b) (hc : Pn c) (hi : 0 ≤ i) (hn : i ≤ n) (h1 : 1 ≤ n) (h2 : n ≤ 64) : -68719476736 ≤ wy a b c i n ∧ wy a b c i n ≤ 68719476736 := by
  unfold Pn at *
  have hp := nn_pos h1 h2
  have l := wy_lo (lo := -16777216) ha.1 hb.1 hc.1 hi hn
  have u := wy_hi (hi' := 16777216) ha.2 hb.2 hc.2 hi hn
  omega

/-- The program's way to a part of the curve never leaves 64 bits. -/
theorem way_wrap {a b c i n : Int} (ha : Pn a) (hb : Pn b) (hc : Pn c) (hi : 0 ≤ i) (hn : i ≤ n) (h1 : 1 ≤ n) (h2 : n ≤ 64) :
    wrap64 (wrap64 (wrap64 (wrap64 (a * wrap64 (n - i)) * wrap64 (n - i)) + wrap64 (wrap64 (wrap64 (2 * b) * i) * wrap64 (n - i))) + wrap64 (wrap64 (c * i) * i)) = wy a b c i n := by
  have hw := wy_bd ha hb hc hi hn h1 h2
  unfold Pn at *
  rw [w64_id (n := n - i) (by omega) (by omega), w64_id (n := 2 * b) (by omega) (by omega)]
  have a1 := mb (y := n - i) (C := 64) ha.1 ha.2 (by omega) (by omega)
  have a2 := mb (y := n - i) (C := 64) a1.1 a1.2 (by omega) (by omega)
  have b1 := mb (x := 2 * b) (B := 33554432) (y := i) (C := 64) (by omega) (by omega) (by omega) (by omega)
  have b2 := mb (y := n - i) (C := 64) b1.1 b1.2 (by omega) (by omega)
  have c1 := mb (y := i) (C := 64) hc.1 hc.2 (by omega) (by omega)
  have c2 := mb (y := i) (C := 64) c1.1 c1.2 (by omega) (by omega)
  unfold wy at *
  rw [w64_id (n := a * (n - i)) (by omega) (by omega), w64_id (n := a * (n - i) * (n - i)) (by omega) (by omega), w64_id (n := 2 * b * i) (by omega) (by omega), w64_id (n := 2 * b * i * (n - i)) (by omega) (by omega), w64_id (n := c * i) (by omega) (by omega), w64_id (n := c * i * i) (by omega) (by omega)]
  rw [w64_id (n := a * (n - i) * (n - i) + 2 * b * i * (n - i)) (by omega) (by omega), w64_id (by omega) (by omega)]

theorem rnd_bd {a b c i n : Int} (ha : Pn a) (hb : Pn b) (hc : Pn c) (hi : 0 ≤ i) (hn : i ≤ n) (h1 : 1 ≤ n) (h2 : n ≤ 64) : -8388608 ≤ rnd (wy a b c i n) (2 * n * n) ∧ rnd (wy a b c i n) (2 * n * n) ≤ 8388608 := by
  unfold Pn at *
  have l := pt_lo (lo := -8388608) ha.1 hb.1 hc.1 hi hn h1 h2
  have u := pt_hi (hi' := 8388608) ha.2 hb.2 hc.2 hi hn h1 h2
  unfold pt at *
  omega

theorem at_eq {a b c i n : Int} (ha : Pn a) (hb : Pn b) (hc : Pn c) (hi : 0 ≤ i) (hn : i ≤ n) (h1 : 1 ≤ n) (h2 : n ≤ 64) (k : Nat) (hk : 20 ≤ k) : curve_at.f k a b c i n = some (pt a b c i n) := by
  have hw := wy_bd ha hb hc hi hn h1 h2
  have hr := rnd_bd ha hb hc hi hn h1 h2
  have hp := nn_pos h1 h2
  have e2 := two_nn n
  unfold curve_at.f
  rw [way_wrap ha hb hc hi hn h1 h2, w64_id (n := 2 * n) (by omega) (by omega), w64_id (n := 2 * n * n) (by omega) (by omega), round_eq (by unfold I64; omega) (by unfold I64; omega) k hk, Option.bind_some]
  unfold rd2 pt
  rw [if_neg (by omega), num_yes (by unfold I64; omega), w64_id (by omega) (by omega)]

theorem near_eq {p d : Int} (hd : 1 ≤ d) (hd1 : d ≤ 4096) (hp : -68719476736 ≤ p) (hp1 : p ≤ 68719476736) : celluloidref16_near.f p d = some (2 * rnd p (2 * d)) := by
  unfold celluloidref16_near.f
  rw [w64_id (n := 2 * d) (by omega) (by omega), w64_id (n := p + d) (by omega) (by omega), if_neg (by omega)]
  have hr : rnd p (2 * d) = (p + d) / (2 * d) := by
    rw [rnd_pos p (by omega), show 2 * p + 2 * d = 2 * (p + d) by omega]
    exact Int.mul_ediv_mul_of_pos _ _ (by omega)
  rw [hr]
  have e := Int.ediv_mul_add_emod (p + d) (2 * d)
  have l1 := Int.emod_nonneg (p + d) (show 2 * d ≠ 0 by omega)
  have l2 := Int.emod_lt_of_pos (p + d) (show 0 < 2 * d by omega)
  have hx : -68719480832 ≤ p + d ∧ p + d ≤ 68719480832 := by omega
  generalize p + d = x at *
  generalize hy : 2 * d = y at *
  have qb : -68719480832 ≤ x / y ∧ x / y ≤ 68719480832 := by
    constructor
    · rw [Int.le_ediv_iff_mul_le (by omega)]; omega
    · have : x / y < 68719480833 := by rw [Int.ediv_lt_iff_lt_mul (by omega)]; omega
      omega
  by_cases h : 0 ≤ x
  · rw [Int.tmod_eq_emod_of_nonneg h, if_neg (by omega), Int.tdiv_eq_ediv_of_nonneg h, w64_id (n := x / y) (by omega) (by omega), w64_id (by omega) (by omega)]
  · have em : Int.tmod x y = -((-x) % y) := by
      have : x = -(-x) := by omega
      rw [this, Int.neg_tmod, Int.tmod_eq_emod_of_nonneg (by omega), Int.neg_neg]
    have ed : Int.tdiv x y = -((-x) / y) := by
      have : x = -(-x) := by omega
      rw [this, Int.neg_tdiv, Int.tdiv_eq_ediv_of_nonneg (by omega), Int.neg_neg]
    have d' := Int.ediv_mul_add_emod (-x) y
    have r1 := Int.emod_nonneg (-x) (show y ≠ 0 by omega)
    have r2 := Int.emod_lt_of_pos (-x) (show 0 < y by omega)
    rw [em, ed]
    by_cases hz : -((-x) % y) < 0
    · have hq : x / y = -((-x) / y) - 1 := by
        have : x = (y - (-x) % y) + (-((-x) / y) - 1) * y := by rw [Int.sub_mul, Int.neg_mul, Int.one_mul]; omega
        rw [this, Int.add_mul_ediv_right _ _ (by omega), Int.ediv_eq_zero_of_lt (by omega) (by omega), ← this]; omega
      rw [if_pos hz, w64_id (n := -((-x) / y)) (by omega) (by omega), w64_id (n := -((-x) / y) - 1) (by omega) (by omega), w64_id (by omega) (by omega), hq]
    · have hq : x / y = -((-x) / y) := by
        have : x = -((-x) / y) * y := by rw [Int.neg_mul]; omega
        rw [this, Int.mul_ediv_cancel _ (by omega), ← this]
      rw [if_neg hz, w64_id (n := -((-x) / y)) (by omega) (by omega), w64_id (by omega) (by omega), hq]

theorem part_eq {a b c i n : Int} (ha : Pn a) (hb : Pn b) (hc : Pn c) (hi : 0 ≤ i) (hn : i ≤ n) (h1 : 1 ≤ n) (h2 : n ≤ 64) : celluloidref16_part.f a b c i n = some (pt a b c i n) := by
  have hw := wy_bd ha hb hc hi hn h1 h2
  have hp := nn_pos h1 h2
  have e2 := two_nn n
  unfold celluloidref16_part.f
  have e : wy a b c i n = (a * (n - i) + b * i) * (n - i) + (b * (n - i) + c * i) * i := by unfold wy; grind
  unfold Pn at *
  rw [w64_id (n := n - i) (by omega) (by omega)]
  have a1 := mb (y := n - i) (C := 64) ha.1 ha.2 (by omega) (by omega)
  have b1 := mb (y := i) (C := 64) hb.1 hb.2 (by omega) (by omega)
  have b2 := mb (y := n - i) (C := 64) hb.1 hb.2 (by omega) (by omega)
  have c1 := mb (y := i) (C := 64) hc.1 hc.2 (by omega) (by omega)
  have s1 := mb (x := a * (n - i) + b * i) (B := 2147483648) (y := n - i) (C := 64) (by omega) (by omega) (by omega) (by omega)
  have s2 := mb (x := b * (n - i) + c * i) (B := 2147483648) (y := i) (C := 64) (by omega) (by omega) (by omega) (by omega)
  rw [w64_id (n := a * (n - i)) (by omega) (by omega), w64_id (n := b * i) (by omega) (by omega), w64_id (n := b * (n - i)) (by omega) (by omega), w64_id (n := c * i) (by omega) (by omega), w64_id (n := a * (n - i) + b * i) (by omega) (by omega), w64_id (n := b * (n - i) + c * i) (by omega) (by omega), w64_id (n := (a * (n - i) + b * i) * (n - i)) (by omega) (by omega), w64_id (n := (b * (n - i) + c * i) * i) (by omega) (by omega), w64_id (n := (a * (n - i) + b * i) * (n - i) + (b * (n - i) + c * i) * i) (by omega) (by omega), w64_id (n := n * n) (by omega) (by omega), ← e, near_eq (by omega) (by omega) (by omega) (by omega), Option.bind_some]
  unfold pt
  rw [e2]

abbrev Pt := S23
/-- The points from i on, m of them. -/
def pts (a0 a1 b0 b1 c0 c1 n : Int) : Nat → Int → List Pt
  | 0, _ => []
  | m + 1, i => ⟨pt a0 b0 c0 i n, pt a1 b1 c1 i n⟩ :: pts a0 a1 b0 b1 c0 c1 n m (i + 1)
theorem pts_len (a0 a1 b0 b1 c0 c1 n : Int) (m : Nat) : ∀ i, (pts a0 a1 b0 b1 c0 c1 n m i).length = m := by
  induction m with
  | zero => intro i; rfl
  | succ m ih => intro i; simp [pts, ih]
theorem pts_at (a0 a1 b0 b1 c0 c1 n : Int) : ∀ (m j : Nat) (i : Int), j < m → rd_T23 (pts a0 a1 b0 b1 c0 c1 n m i) (j : Int) = ⟨pt a0 b0 c0 (i + j) n, pt a1 b1 c1 (i + j) n⟩ := by
  intro m
  induction m with
  | zero => intro j i h; omega
  | succ m ih =>
    intro j i h
    cases j with
    | zero => simp [pts, rd_T23]
    | succ j =>
      have := ih j (i + 1) (by omega)
      have e : rd_T23 (pts a0 a1 b0 b1 c0 c1 n (m + 1) i) ((j + 1 : Nat) : Int) = rd_T23 (pts a0 a1 b0 b1 c0 c1 n m (i + 1)) (j : Int) := by simp [pts, rd_T23]
      rw [e, this, show i + ((j + 1 : Nat) : Int) = i + 1 + (j : Int) by omega]

/-- All six numbers. -/
structure P6 (a0 a1 b0 b1 c0 c1 : Int) : Prop where
  a0 : Pn a0
  a1 : Pn a1
  b0 : Pn b0
  b1 : Pn b1
  c0 : Pn c0
  c1 : Pn c1
theorem Ev3.p6 {a0 a1 b0 b1 c0 c1 : Int} (h : Ev3 a0 a1 b0 b1 c0 c1) : P6 a0 a1 b0 b1 c0 c1 := by
  unfold Ev3 EvP at h
  constructor <;> unfold Pn <;> omega

theorem flat_l0 {a0 a1 b0 b1 c0 c1 n : Int} (h : P6 a0 a1 b0 b1 c0 c1) (h1 : 1 ≤ n) (h2 : n ≤ 32) : ∀ (m k : Nat) (i : Int) (l : List Pt), 1 ≤ i → i + m = n + 1 → l.length + m ≤ 1000 → m + 30 ≤ k →
    curve_Flat.l0 k n l i a0 a1 b0 b1 c0 c1 = some (l ++ pts a0 a1 b0 b1 c0 c1 n m i) := by
  intro m
  induction m with
  | zero =>
    intro k i l hi hm hl hk
    obtain ⟨k, rfl⟩ : ∃ m, k = m + 1 := ⟨k - 1, by omega⟩
    rw [curve_Flat.l0, if_neg (by omega)]; simp [pts]
  | succ m ih =>
    intro k i l hi hm hl hk
    obtain ⟨k, rfl⟩ : ∃ m, k = m + 1 := ⟨k - 1, by omega⟩
    rw [curve_Flat.l0, if_pos (by omega), at_eq h.a0 h.b0 h.c0 (by omega) (by omega) h1 (by omega) k (by omega), Option.bind_some, at_eq h.a1 h.b1 h.c1 (by omega) (by omega) h1 (by omega) k (by omega), Option.bind_some, if_pos (by omega), w64_id (by omega) (by omega), ih k (i + 1) _ (by omega) (by omega) (by simp; omega) (by omega)]
    simp [pts]

theorem flatR_l0 {a0 a1 b0 b1 c0 c1 n : Int} (h : P6 a0 a1 b0 b1 c0 c1) (h1 : 1 ≤ n) (h2 : n ≤ 32) : ∀ (m k : Nat) (i : Int) (l : List Pt), 1 ≤ i → i + m = n + 1 → l.length + m ≤ 1000 → m + 30 ≤ k →
    celluloidref16_Flat.l0 k l n i a0 a1 b0 b1 c0 c1 = some (l ++ pts a0 a1 b0 b1 c0 c1 n m i) := by
  intro m
  induction m with
  | zero =>
    intro k i l hi hm hl hk
    obtain ⟨k, rfl⟩ : ∃ m, k = m + 1 := ⟨k - 1, by omega⟩
    rw [celluloidref16_Flat.l0, if_neg (by omega)]; simp [pts]
  | succ m ih =>
    intro k i l hi hm hl hk
    obtain ⟨k, rfl⟩ : ∃ m, k = m + 1 := ⟨k - 1, by omega⟩
    rw [celluloidref16_Flat.l0, if_pos (by omega), part_eq h.a0 h.b0 h.c0 (by omega) (by omega) h1 (by omega), Option.bind_some, part_eq h.a1 h.b1 h.c1 (by omega) (by omega) h1 (by omega), Option.bind_some, if_pos (by omega), w64_id (by omega) (by omega), ih k (i + 1) _ (by omega) (by omega) (by simp; omega) (by omega)]
    simp [pts]

/-- The points of a curve. -/
def cur (a0 a1 b0 b1 c0 c1 : Int) : List Pt := pts a0 a1 b0 b1 c0 c1 (pcs (bd a0 a1 b0 b1 c0 c1)) (pcs (bd a0 a1 b0 b1 c0 c1)).toNat 1
theorem pcs_bd (d : Int) : 1 ≤ pcs d ∧ pcs d ≤ 32 := by have := pcs_cases d; omega

theorem flat_eq {a0 a1 b0 b1 c0 c1 : Int} (h : Ev3 a0 a1 b0 b1 c0 c1) (k : Nat) (hk : 100 ≤ k) : curve_Flat.f k a0 a1 b0 b1 c0 c1 = some (cur a0 a1 b0 b1 c0 c1) := by
  have hp := pcs_bd (bd a0 a1 b0 b1 c0 c1)
  unfold curve_Flat.f cur
  rw [pieces_eq _ _ _ _ _ _ k (by omega), if_pos h, Option.bind_some, flat_l0 h.p6 hp.1 hp.2 (pcs (bd a0 a1 b0 b1 c0 c1)).toNat k 1 [] (by omega) (by omega) (by simp; omega) (by omega)]
  rfl
theorem flat_no {a0 a1 b0 b1 c0 c1 : Int} (h : ¬ Ev3 a0 a1 b0 b1 c0 c1) (k : Nat) (hk : 100 ≤ k) : curve_Flat.f k a0 a1 b0 b1 c0 c1 = some [] := by
  obtain ⟨k, rfl⟩ : ∃ m, k = m + 1 := ⟨k - 1, by omega⟩
  unfold curve_Flat.f
  rw [pieces_eq _ _ _ _ _ _ _ (by omega), if_neg h, Option.bind_some, curve_Flat.l0, if_neg (by omega)]
theorem flatR_eq {a0 a1 b0 b1 c0 c1 : Int} (h : Ev3 a0 a1 b0 b1 c0 c1) (k : Nat) (hk : 100 ≤ k) : celluloidref16_Flat.f k a0 a1 b0 b1 c0 c1 = some (cur a0 a1 b0 b1 c0 c1) := by
  have hp := pcs_bd (bd a0 a1 b0 b1 c0 c1)
  unfold celluloidref16_Flat.f cur
  rw [piecesR_eq h k (by omega), Option.bind_some, flatR_l0 h.p6 hp.1 hp.2 (pcs (bd a0 a1 b0 b1 c0 c1)).toNat k 1 [] (by omega) (by omega) (by simp; omega) (by omega)]
  rfl
theorem cur_len (a0 a1 b0 b1 c0 c1 : Int) : ((cur a0 a1 b0 b1 c0 c1).length : Int) = pcs (bd a0 a1 b0 b1 c0 c1) := by
  have hp := pcs_bd (bd a0 a1 b0 b1 c0 c1)
  unfold cur; rw [pts_len]; omega
theorem cur_at (a0 a1 b0 b1 c0 c1 : Int) (j : Nat) (h : (j : Int) < pcs (bd a0 a1 b0 b1 c0 c1)) : rd_T23 (cur a0 a1 b0 b1 c0 c1) (j : Int) = ⟨pt a0 b0 c0 (1 + j) (pcs (bd a0 a1 b0 b1 c0 c1)), pt a1 b1 c1 (1 + j) (pcs (bd a0 a1 b0 b1 c0 c1))⟩ := by
  unfold cur; exact pts_at _ _ _ _ _ _ _ _ _ _ (by omega)

theorem awake_eq (k : Nat) (hk : 100 ≤ k) : celluloidlaw16_awake.f k = some true := by
  have h : Ev3 0 0 32 0 64 64 := by decide
  unfold celluloidlaw16_awake.f
  rw [flat_eq h k hk, Option.bind_some]
  have e : cur 0 0 32 0 64 64 = [⟨2 * 8, 2 * 2⟩, ⟨2 * 16, 2 * 8⟩, ⟨2 * 24, 2 * 18⟩, ⟨2 * 32, 2 * 32⟩] := by rfl
  have hb : bd 0 0 32 0 64 64 = 64 := by decide
  rw [e, bend_eq, if_pos h, hb]
  rfl

/-- The last point is the curve's end. -/
theorem pt_end {a b c n : Int} (h1 : 1 ≤ n) (h2 : n ≤ 64) (hc : c % 2 = 0) : pt a b c n n = c := by
  have hp := nn_pos h1 h2
  have e : wy a b c n n = c * (n * n) := by unfold wy; grind
  unfold pt
  rw [e, two_nn]
  obtain ⟨m, rfl⟩ : ∃ m, c = 2 * m := ⟨c / 2, by omega⟩
  generalize n * n = s at *
  have e' : 2 * m * s = m * (2 * s) := by rw [Int.mul_comm 2 m, Int.mul_assoc]
  have l := rnd_lo (p := 2 * m * s) (c := 2 * s) (lo := m) (by omega) (by omega)
  have u := rnd_hi (p := 2 * m * s) (c := 2 * s) (hi := m) (by omega) (by omega)
  omega

end Go.Proofs.Ytdhjcfgklbedjaa.P
