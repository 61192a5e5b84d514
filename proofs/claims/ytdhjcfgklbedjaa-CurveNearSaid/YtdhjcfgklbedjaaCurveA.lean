/- What a curve's functions come to, and the document's: may points be a curve's, how far does it bend, how many pieces, and their points. -/
import Derived.Test.YtdhjcfgklbedjaaFixB
import Derived.Test.YtdhjcfgklbedjaaPx2
import Derived.Test.YtdhjcfgklbedjaaPx4
import Derived.Test.YtdhjcfgklbedjaaPx5
import Derived.Test.YtdhjcfgklbedjaaPx6
namespace Go.Proofs.Ytdhjcfgklbedjaa.P
open Go.RowKit Go.Proofs.YtdhjcfgklbedjaaW.PrintWords Go.Proofs.YtdhjcfgklbedjaaW.PrintLast Go.Proofs.YtdhjcfgklbedjaaW.PrintMore

theorem and_low (n : Int) (m : Nat) (hm : m ≤ 62) (c : Int) (hc : c = ((2 ^ m - 1 : Nat) : Int)) : Go.bits .and .i64 n c = n % ((2 ^ m : Nat) : Int) := by
  subst hc
  have hp := Nat.two_pow_pos m
  have hp2 : 2 ^ m ≤ 2 ^ 62 := Nat.pow_le_pow_right (by omega) hm
  have h1 : (BitVec.ofInt 64 ((2 ^ m - 1 : Nat) : Int)).toNat = 2 ^ m - 1 := by
    rw [BitVec.toNat_ofInt]
    generalize 2 ^ m = p at *
    have : (2 : Nat) ^ 64 = 18446744073709551616 := by decide
    rw [this]; omega
  have key : (BitVec.ofInt 64 n &&& BitVec.ofInt 64 ((2 ^ m - 1 : Nat) : Int)).toNat = (n % ((2 ^ 64 : Nat) : Int)).toNat % 2 ^ m := by
    rw [BitVec.toNat_and, BitVec.toNat_ofInt, h1, Nat.and_two_pow_sub_one_eq_mod]
  show IntKind.i64.wrap ((BitVec.ofInt 64 n &&& BitVec.ofInt 64 ((2 ^ m - 1 : Nat) : Int)).toNat : Nat) = n % ((2 ^ m : Nat) : Int)
  rw [key, IntKind.wrap_i64]
  have hdvd : ((2 ^ m : Nat) : Int) ∣ ((2 ^ 64 : Nat) : Int) := by
    rw [Int.natCast_dvd_natCast]; exact Nat.pow_dvd_pow 2 (by omega)
  have e : (((n % ((2 ^ 64 : Nat) : Int)).toNat % 2 ^ m : Nat) : Int) = n % ((2 ^ m : Nat) : Int) := by
    rw [Int.natCast_emod, Int.toNat_of_nonneg (Int.emod_nonneg _ (by decide)), Int.emod_emod_of_dvd _ hdvd]
  rw [e]
  have h0 := Int.emod_nonneg n (show ((2 ^ m : Nat) : Int) ≠ 0 by omega)
  have h2 := Int.emod_lt_of_pos n (show 0 < ((2 ^ m : Nat) : Int) by omega)
  have h62 : (2 : Nat) ^ 62 = 4611686018427387904 := by decide
  generalize n % ((2 ^ m : Nat) : Int) = z at *
  generalize 2 ^ m = p at *
  omega
theorem and1 (n : Int) : Go.bits .and .i64 n 1 = n % 2 := and_low n 1 (by omega) 1 (by decide)

/-- May a point be a curve's? -/
def EvP (x y : Int) : Prop := x % 2 = 0 ∧ y % 2 = 0 ∧ -16777216 ≤ x ∧ x ≤ 16777216 ∧ -16777216 ≤ y ∧ y ≤ 16777216
instance (x y : Int) : Decidable (EvP x y) := by unfold EvP; infer_instance

theorem even_eq (x y : Int) : curve_Even.f x y = some (decide (EvP x y)) := by
  unfold curve_Even.f
  rw [and1, and1]
  by_cases h1 : x % 2 = 0
  · rw [if_pos h1]
    by_cases h2 : y % 2 = 0
    · rw [if_pos h2]
      by_cases h3 : mx x y ≤ 16777216
      · rw [if_pos h3]; congr 1; apply decide_eq_decide.mpr; unfold EvP; unfold mx at h3; unfold mn; omega
      · rw [if_neg h3]; congr 1; symm; apply decide_eq_false; unfold EvP; unfold mx at h3; omega
    · rw [if_neg h2]; congr 1; symm; apply decide_eq_false; unfold EvP; omega
  · rw [if_neg h1]; congr 1; symm; apply decide_eq_false; unfold EvP; omega

theorem tmod2 (x : Int) : Int.tmod x 2 = 0 ↔ x % 2 = 0 := by rw [← Int.dvd_iff_tmod_eq_zero, Int.dvd_iff_emod_eq_zero]

theorem evenR_eq (x y : Int) (k : Nat) (hk : 10 ≤ k) : celluloidref16_Even.f k x y = some (decide (EvP x y)) := by
  obtain ⟨k, rfl⟩ : ∃ m, k = m + 10 := ⟨k - 10, by omega⟩
  have step : ∀ (i : Nat) (k : Nat), i < 2 → celluloidref16_Even.l0 (k + 1) [x, y] 2 (i : Int) = if rd [x, y] (i : Int) % 2 = 0 ∧ rd [x, y] (i : Int) ≤ 16777216 ∧ -16777216 ≤ rd [x, y] (i : Int) then celluloidref16_Even.l0 k [x, y] 2 ((i : Int) + 1) else some false := by
    intro i k hi
    rw [celluloidref16_Even.l0, if_pos (by omega), if_pos (by omega), if_pos (by simp; omega)]
    generalize rd [x, y] (i : Int) = z
    have ht := tmod2 z
    by_cases h1 : z % 2 = 0
    · rw [if_pos (ht.mpr h1)]
      by_cases h2 : z > 16777216
      · rw [if_pos h2, if_neg (by omega)]
      · rw [if_neg h2]
        by_cases h3 : z < -16777216
        · rw [if_pos h3, if_neg (by omega)]
        · rw [if_neg h3, if_pos (by omega), w64_id (by omega) (by omega)]
    · rw [if_neg (fun h => h1 (ht.mp h)), if_neg (by omega)]
  have e : celluloidref16_Even.f (k + 10) x y = celluloidref16_Even.l0 (k + 10) [x, y] 2 ((0 : Nat) : Int) := rfl
  rw [e, step 0 (k + 9) (by omega)]
  have r0 : rd [x, y] ((0 : Nat) : Int) = x := rfl
  have r1 : rd [x, y] ((1 : Nat) : Int) = y := rfl
  rw [r0]
  by_cases h : x % 2 = 0 ∧ x ≤ 16777216 ∧ -16777216 ≤ x
  · rw [if_pos h, show ((0 : Nat) : Int) + 1 = ((1 : Nat) : Int) from rfl, step 1 (k + 8) (by omega), r1]
    by_cases h' : y % 2 = 0 ∧ y ≤ 16777216 ∧ -16777216 ≤ y
    · rw [if_pos h', celluloidref16_Even.l0, if_neg (by omega)]; congr 1; symm; apply decide_eq_true; unfold EvP; omega
    · rw [if_neg h']; congr 1; symm; apply decide_eq_false; unfold EvP; omega
  · rw [if_neg h]; congr 1; symm; apply decide_eq_false; unfold EvP; omega

/-- May three points be a curve's? -/
def Ev3 (a0 a1 b0 b1 c0 c1 : Int) : Prop := EvP a0 a1 ∧ EvP b0 b1 ∧ EvP c0 c1
instance (a0 a1 b0 b1 c0 c1 : Int) : Decidable (Ev3 a0 a1 b0 b1 c0 c1) := by unfold Ev3; infer_instance

theorem right_eq (a0 a1 b0 b1 c0 c1 : Int) (k : Nat) (hk : 10 ≤ k) : celluloidlaw16_right.f k a0 a1 b0 b1 c0 c1 = some (decide (Ev3 a0 a1 b0 b1 c0 c1)) := by
  unfold celluloidlaw16_right.f
  rw [evenR_eq _ _ k hk, evenR_eq _ _ k hk, evenR_eq _ _ k hk]
  simp only [Option.bind_some, decide_eq_true_eq]
  unfold Ev3
  by_cases h1 : EvP a0 a1 <;> by_cases h2 : EvP b0 b1 <;> by_cases h3 : EvP c0 c1 <;> simp [h1, h2, h3]

theorem even3_eq (a0 a1 b0 b1 c0 c1 : Int) : curve_even.f a0 a1 b0 b1 c0 c1 = some (decide (Ev3 a0 a1 b0 b1 c0 c1)) := by
  unfold curve_even.f
  rw [even_eq, even_eq, even_eq]
  simp only [Option.bind_some, decide_eq_true_eq]
  unfold Ev3
  by_cases h1 : EvP a0 a1 <;> by_cases h2 : EvP b0 b1 <;> by_cases h3 : EvP c0 c1 <;> simp [h1, h2, h3]

/-- How far a curve bends. -/
def bd (a0 a1 b0 b1 c0 c1 : Int) : Int := mx (mx (a0 - 2 * b0 + c0) (-(a0 - 2 * b0 + c0))) (mx (a1 - 2 * b1 + c1) (-(a1 - 2 * b1 + c1)))

theorem bend_eq (a0 a1 b0 b1 c0 c1 : Int) : curve_Bend.f a0 a1 b0 b1 c0 c1 = some (if Ev3 a0 a1 b0 b1 c0 c1 then bd a0 a1 b0 b1 c0 c1 else 0) := by
  unfold curve_Bend.f
  rw [even3_eq]
  simp only [Option.bind_some, decide_eq_true_eq]
  by_cases h : Ev3 a0 a1 b0 b1 c0 c1
  · rw [if_pos h, if_pos h]
    unfold Ev3 EvP at h
    unfold curve_size.f bd
    simp only [Option.bind_some]
    rw [w64_id (n := 2 * b0) (by omega) (by omega), w64_id (n := 2 * b1) (by omega) (by omega), w64_id (n := a0 - 2 * b0) (by omega) (by omega), w64_id (n := a1 - 2 * b1) (by omega) (by omega), w64_id (n := a0 - 2 * b0 + c0) (by omega) (by omega), w64_id (n := a1 - 2 * b1 + c1) (by omega) (by omega), w64_id (n := -(a0 - 2 * b0 + c0)) (by omega) (by omega), w64_id (n := -(a1 - 2 * b1 + c1)) (by omega) (by omega)]
  · rw [if_neg h, if_neg h]

theorem bd_bd {a0 a1 b0 b1 c0 c1 : Int} (h : Ev3 a0 a1 b0 b1 c0 c1) : 0 ≤ bd a0 a1 b0 b1 c0 c1 ∧ bd a0 a1 b0 b1 c0 c1 ≤ 67108864 := by
  unfold Ev3 EvP at h; unfold bd mx; split <;> split <;> split <;> omega

theorem bendR_eq {a0 a1 b0 b1 c0 c1 : Int} (h : Ev3 a0 a1 b0 b1 c0 c1) (k : Nat) (hk : 10 ≤ k) : celluloidref16_Bend.f k a0 a1 b0 b1 c0 c1 = some (bd a0 a1 b0 b1 c0 c1) := by
  obtain ⟨k, rfl⟩ : ∃ m, k = m + 10 := ⟨k - 10, by omega⟩
  unfold Ev3 EvP at h
  unfold celluloidref16_Bend.f
  rw [Option.bind_some]
  rw [w64_id (n := 2 * b0) (by omega) (by omega), w64_id (n := 2 * b1) (by omega) (by omega), w64_id (n := a0 + c0) (by omega) (by omega), w64_id (n := a1 + c1) (by omega) (by omega), w64_id (n := a0 + c0 - 2 * b0) (by omega) (by omega), w64_id (n := a1 + c1 - 2 * b1) (by omega) (by omega), w64_id (n := 2 * b0 - a0) (by omega) (by omega), w64_id (n := 2 * b1 - a1) (by omega) (by omega), w64_id (n := 2 * b0 - a0 - c0) (by omega) (by omega), w64_id (n := 2 * b1 - a1 - c1) (by omega) (by omega)]
  generalize hl : [a0 + c0 - 2 * b0, a1 + c1 - 2 * b1, 2 * b0 - a0 - c0, 2 * b1 - a1 - c1] = l
  have len : l.length = 4 := by rw [← hl]; rfl
  have step : ∀ (i : Nat) (k : Nat) (z : Int), i < 4 → celluloidref16_Bend.l0 (k + 1) z l (l.length : Int) (i : Int) = celluloidref16_Bend.l0 k (mx (rd l (i : Int)) z) l (l.length : Int) ((i + 1 : Nat) : Int) := by
    intro i k z hi
    rw [celluloidref16_Bend.l0, if_pos (by omega), if_pos (by omega), if_pos (by omega), w64_id (n := (i : Int) + 1) (by omega) (by omega)]
    unfold mx
    by_cases hz : rd l (i : Int) > z
    · rw [if_pos hz, if_neg (by omega)]; rfl
    · rw [if_neg hz]
      by_cases h' : rd l (i : Int) < z
      · rw [if_pos h']; rfl
      · rw [if_neg h', show z = rd l (i : Int) by omega]; rfl
  rw [show (0 : Int) = ((0 : Nat) : Int) from rfl, step 0 (k + 9) _ (by omega), step 1 (k + 8) _ (by omega), step 2 (k + 7) _ (by omega), step 3 (k + 6) _ (by omega), celluloidref16_Bend.l0, if_neg (by rw [len]; decide)]
  have r0 : rd l ((0 : Nat) : Int) = a0 + c0 - 2 * b0 := by rw [← hl]; rfl
  have r1 : rd l ((1 : Nat) : Int) = a1 + c1 - 2 * b1 := by rw [← hl]; rfl
  have r2 : rd l ((2 : Nat) : Int) = 2 * b0 - a0 - c0 := by rw [← hl]; rfl
  have r3 : rd l ((3 : Nat) : Int) = 2 * b1 - a1 - c1 := by rw [← hl]; rfl
  rw [r0, r1, r2, r3]
  congr 1
  unfold bd mx
  repeat' split
  all_goals omega

/-- How many pieces. -/
def pcs (d : Int) : Int := if d ≤ 8 then 1 else if d ≤ 32 then 2 else if d ≤ 128 then 4 else if d ≤ 512 then 8 else if d ≤ 2048 then 16 else 32

theorem pcs_cases (d : Int) : pcs d = 1 ∨ pcs d = 2 ∨ pcs d = 4 ∨ pcs d = 8 ∨ pcs d = 16 ∨ pcs d = 32 := by
  unfold pcs
  repeat' split
  all_goals simp

theorem pieces_l0 (d : Int) (k : Nat) : curve_Pieces.l0 (k + 6) d 1 = some (pcs d) := by
  have go : ∀ (k : Nat) (n : Int), 0 < n → n < 32 → curve_Pieces.l0 (k + 1) d n = if 8 * n * n < d then curve_Pieces.l0 k d (n * 2) else some n := by
    intro k n h0 h1
    have hn : 0 ≤ 8 * n * n ∧ 8 * n * n ≤ 8 * 32 * 32 := ⟨Int.mul_nonneg (by omega) (by omega), Int.mul_le_mul (by omega) (by omega) (by omega) (by omega)⟩
    rw [curve_Pieces.l0, if_pos h1, w64_id (n := 8 * n) (by omega) (by omega), w64_id (n := 8 * n * n) (by omega) (by omega), w64_id (n := n * 2) (by omega) (by omega)]
  have last : curve_Pieces.l0 (k + 1) d 32 = some 32 := by rw [curve_Pieces.l0, if_neg (by omega)]
  rw [go (k + 5) 1 (by omega) (by omega), go (k + 4) (1 * 2) (by omega) (by omega), go (k + 3) (1 * 2 * 2) (by omega) (by omega), go (k + 2) (1 * 2 * 2 * 2) (by omega) (by omega), go (k + 1) (1 * 2 * 2 * 2 * 2) (by omega) (by omega), show (1 * 2 * 2 * 2 * 2 * 2 : Int) = 32 from rfl, last]
  unfold pcs
  repeat' split
  all_goals first
    | rfl
    | omega

theorem pieces_eq (a0 a1 b0 b1 c0 c1 : Int) (k : Nat) (hk : 10 ≤ k) : curve_Pieces.f k a0 a1 b0 b1 c0 c1 = some (if Ev3 a0 a1 b0 b1 c0 c1 then pcs (bd a0 a1 b0 b1 c0 c1) else 0) := by
  obtain ⟨k, rfl⟩ : ∃ m, k = m + 6 := ⟨k - 6, by omega⟩
  unfold curve_Pieces.f
  rw [even3_eq, bend_eq]
  simp only [Option.bind_some, decide_eq_true_eq]
  by_cases h : Ev3 a0 a1 b0 b1 c0 c1
  · rw [if_pos h, if_pos h, if_pos h, pieces_l0]
  · rw [if_neg h, if_neg h]

theorem piecesR_eq {a0 a1 b0 b1 c0 c1 : Int} (h : Ev3 a0 a1 b0 b1 c0 c1) (k : Nat) (hk : 20 ≤ k) : celluloidref16_Pieces.f k a0 a1 b0 b1 c0 c1 = some (pcs (bd a0 a1 b0 b1 c0 c1)) := by
  obtain ⟨k, rfl⟩ : ∃ m, k = m + 20 := ⟨k - 20, by omega⟩
  unfold celluloidref16_Pieces.f
  rw [Option.bind_some]
  generalize hl : ([1, 2, 4, 8, 16] : List Int) = l
  have len : l.length = 5 := by rw [← hl]; rfl
  have step : ∀ (i : Nat) (k : Nat), i < 5 → 10 ≤ k → celluloidref16_Pieces.l0 (k + 1) l (l.length : Int) (i : Int) a0 a1 b0 b1 c0 c1 = if wrap64 (wrap64 (8 * rd l (i : Int)) * rd l (i : Int)) ≥ bd a0 a1 b0 b1 c0 c1 then some (rd l (i : Int)) else celluloidref16_Pieces.l0 k l (l.length : Int) ((i + 1 : Nat) : Int) a0 a1 b0 b1 c0 c1 := by
    intro i k hi hk
    rw [celluloidref16_Pieces.l0, if_pos (by omega), if_pos (by omega), if_pos (by omega), w64_id (n := (i : Int) + 1) (by omega) (by omega), bendR_eq h k hk, Option.bind_some]
    rfl
  rw [show (0 : Int) = ((0 : Nat) : Int) from rfl, step 0 (k + 19) (by omega) (by omega), step 1 (k + 18) (by omega) (by omega), step 2 (k + 17) (by omega) (by omega), step 3 (k + 16) (by omega) (by omega), step 4 (k + 15) (by omega) (by omega), celluloidref16_Pieces.l0, if_neg (show ¬ ((4 + 1 : Nat) : Int) < (l.length : Int) by rw [len]; decide)]
  have r0 : rd l ((0 : Nat) : Int) = 1 := by rw [← hl]; rfl
  have r1 : rd l ((0 + 1 : Nat) : Int) = 2 := by rw [← hl]; rfl
  have r2 : rd l ((1 + 1 : Nat) : Int) = 4 := by rw [← hl]; rfl
  have r3 : rd l ((2 + 1 : Nat) : Int) = 8 := by rw [← hl]; rfl
  have r4 : rd l ((3 + 1 : Nat) : Int) = 16 := by rw [← hl]; rfl
  have q0 : rd l ((1 : Nat) : Int) = 2 := r1
  have q1 : rd l ((2 : Nat) : Int) = 4 := r2
  have q2 : rd l ((3 : Nat) : Int) = 8 := r3
  have q3 : rd l ((4 : Nat) : Int) = 16 := r4
  try rw [r0]
  try rw [q0]
  try rw [q1]
  try rw [q2]
  try rw [q3]
  have v1 : wrap64 (wrap64 (8 * 1) * 1) = 8 := by unfold wrap64; omega
  have v2 : wrap64 (wrap64 (8 * 2) * 2) = 32 := by unfold wrap64; omega
  have v3 : wrap64 (wrap64 (8 * 4) * 4) = 128 := by unfold wrap64; omega
  have v4 : wrap64 (wrap64 (8 * 8) * 8) = 512 := by unfold wrap64; omega
  have v5 : wrap64 (wrap64 (8 * 16) * 16) = 2048 := by unfold wrap64; omega
  rw [v1, v2, v3, v4, v5]
  unfold pcs
  repeat' split
  all_goals first
    | rfl
    | omega
end Go.Proofs.Ytdhjcfgklbedjaa.P
