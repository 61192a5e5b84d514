/- Segments that are shifted by even units wind a sample that is shifted so as they did. (prune.py) -/
import Derived.Test.YtgmegmhioiljcaaPx0
import Derived.Test.YtgmegmhioiljcaaPx1
import Derived.Test.YtgmegmhioiljcaaPx2
import Derived.Test.YtgmegmhioiljcaaPx6
import Derived.Test.YtgmegmhioiljcaaPx8
import Derived.Test.YtgmegmhioiljcaaPx15
import Derived.KernelRfl
import Derived.Laws.BitsAllLaws
import Derived.Laws.MathBits
import Derived.Lib.BitFns
import Derived.Test.YtgmegmhioiljcaaSaySweepShifts
namespace Go.Proofs.Ytgmegmhioiljcaa.P
open Go.RowKit Go.Proofs.YtgmegmhioiljcaaW.PrintWords Go.Proofs.YtgmegmhioiljcaaW.PrintLast Go.Proofs.YtgmegmhioiljcaaW.PrintMore
theorem w64_id {n : Int} (h0 : -9223372036854775808 ≤ n) (h1 : n < 9223372036854775808) : wrap64 n = n := by unfold wrap64; omega
structure Digit (u v v1 v0 u1 Q : Int) : Prop where
  hv : v = v1 * 4294967296 + v0
  v0a : 0 ≤ v0
  v0b : v0 < 4294967296
  v1a : 2147483648 ≤ v1
  v1b : v1 < 4294967296
  ua : 0 ≤ u
  ub : u < v
  u1a : 0 ≤ u1
  u1b : u1 < 4294967296
  qa : Q * v ≤ u * 4294967296 + u1
  qb : u * 4294967296 + u1 < Q * v + v
theorem lt_of_mul {a b v : Int} (hv : 0 < v) (h : a * v < b * v) : a < b := by
  rcases Int.lt_or_le a b with h1 | h1
  · exact h1
  · have := Int.mul_le_mul_of_nonneg_right h1 (Int.le_of_lt hv); omega
namespace Digit
variable {u v v1 v0 u1 Q : Int}
theorem vpos (d : Digit u v v1 v0 u1 Q) : 0 < v := by have := d.hv; have := d.v1a; have := d.v0a; omega
theorem q0 (d : Digit u v v1 v0 u1 Q) : 0 ≤ Q := by
  have h := d.qb; have := d.ua; have := d.u1a; have hv := d.vpos
  have : -1 < Q := lt_of_mul hv (by have : (Q + 1) * v = Q * v + v := by rw [Int.add_mul, Int.one_mul]
                                    omega)
  omega
theorem above (d : Digit u v v1 v0 u1 Q) {q : Int} (h : q * v ≤ u * 4294967296 + u1) : q ≤ Q := by
  have : q < Q + 1 := lt_of_mul d.vpos (by have := d.qb; rw [Int.add_mul, Int.one_mul]; omega)
  omega
theorem prod (d : Digit u v v1 v0 u1 Q) {q r : Int} (h : q * v1 + r = u) : q * v = (u - r) * 4294967296 + q * v0 := by
  rw [d.hv, Int.mul_add, ← Int.mul_assoc, show q * v1 = u - r by omega]
/-- It says no: the guess is right. -/
theorem no (d : Digit u v v1 v0 u1 Q) {q r : Int} (h : q * v1 + r = u) (hq : Q ≤ q) (ht : q * v0 ≤ 4294967296 * r + u1) : q = Q := by
  have := d.above (q := q) (by rw [d.prod h]; omega); omega
/-- What is left over is great: the guess is right. -/
theorem out (d : Digit u v v1 v0 u1 Q) {q r : Int} (h : q * v1 + r = u) (hq : Q ≤ q) (hB : q ≤ 4294967296) (hr : 4294967296 ≤ r) : q = Q := by
  refine d.no h hq ?_
  have h0 := d.q0
  have h1 : q * v0 ≤ 4294967296 * v0 := Int.mul_le_mul_of_nonneg_right hB d.v0a
  have := d.v0b; have := d.u1a; omega
end Digit
/-- A digit, out of the division itself. -/
theorem Digit.of {u v v1 v0 u1 : Int} (hv : v = v1 * 4294967296 + v0) (v0a : 0 ≤ v0) (v0b : v0 < 4294967296) (v1a : 2147483648 ≤ v1) (v1b : v1 < 4294967296) (ua : 0 ≤ u) (ub : u < v) (u1a : 0 ≤ u1) (u1b : u1 < 4294967296) :
    Digit u v v1 v0 u1 ((u * 4294967296 + u1) / v) := by
  have h := Int.mul_ediv_add_emod (u * 4294967296 + u1) v
  have hm := Int.emod_nonneg (u * 4294967296 + u1) (show v ≠ 0 by omega)
  have hl := Int.emod_lt_of_pos (u * 4294967296 + u1) (show 0 < v by omega)
  rw [Int.mul_comm] at h
  exact ⟨hv, v0a, v0b, v1a, v1b, ua, ub, u1a, u1b, by omega, by omega⟩
end Go.Proofs.Ytgmegmhioiljcaa.P
namespace Go.Proofs.Ytgmegmhioiljcaa.P
open Go.RowKit Go.Proofs.YtgmegmhioiljcaaW.PrintWords Go.Proofs.YtgmegmhioiljcaaW.PrintLast Go.Proofs.YtgmegmhioiljcaaW.PrintMore
theorem and_low (n : Int) (m : Nat) (hm : m ≤ 62) (c : Int) (hc : c = ((2 ^ m - 1 : Nat) : Int)) : Go.bits .and .i64 n c = n % ((2 ^ m : Nat) : Int) := by
  subst hc
  have hp := Nat.two_pow_pos m
  have hp2 : 2 ^ m ≤ 2 ^ 62 := Nat.pow_le_pow_right (by omega) hm
  have h1 : (BitVec.ofInt 64 ((2 ^ m - 1 : Nat) : Int)).toNat = 2 ^ m - 1 := by
    rw [BitVec.toNat_ofInt]
    generalize 2 ^ m = p at *
    have : (2 : Nat) ^ 64 = 18446744073709551616 := by decide
    rw [this]; omega
  have key : (BitVec.ofInt 64 n &&& BitVec.ofInt 64 ((2 ^ m - 1 : Nat) : Int)).toNat = (n % ((2 ^ 64 : Nat) : Int)).toNat % 2 ^ m := by
    rw [BitVec.toNat_and, BitVec.toNat_ofInt, h1, Nat.and_two_pow_sub_one_eq_mod]
  show IntKind.i64.wrap ((BitVec.ofInt 64 n &&& BitVec.ofInt 64 ((2 ^ m - 1 : Nat) : Int)).toNat : Nat) = n % ((2 ^ m : Nat) : Int)
  rw [key, IntKind.wrap_i64]
  have hdvd : ((2 ^ m : Nat) : Int) ∣ ((2 ^ 64 : Nat) : Int) := by
    rw [Int.natCast_dvd_natCast]; exact Nat.pow_dvd_pow 2 (by omega)
  have e : (((n % ((2 ^ 64 : Nat) : Int)).toNat % 2 ^ m : Nat) : Int) = n % ((2 ^ m : Nat) : Int) := by
    rw [Int.natCast_emod, Int.toNat_of_nonneg (Int.emod_nonneg _ (by decide)), Int.emod_emod_of_dvd _ hdvd]
  rw [e]
  have h0 := Int.emod_nonneg n (show ((2 ^ m : Nat) : Int) ≠ 0 by omega)
  have h2 := Int.emod_lt_of_pos n (show 0 < ((2 ^ m : Nat) : Int) by omega)
  have h62 : (2 : Nat) ^ 62 = 4611686018427387904 := by decide
  generalize n % ((2 ^ m : Nat) : Int) = z at *
  generalize 2 ^ m = p at *
  omega
theorem and1 (n : Int) : Go.bits .and .i64 n 1 = n % 2 := and_low n 1 (by omega) 1 (by decide)
/-- May a point be a curve's? -/
def EvP (x y : Int) : Prop := x % 2 = 0 ∧ y % 2 = 0 ∧ -16777216 ≤ x ∧ x ≤ 16777216 ∧ -16777216 ≤ y ∧ y ≤ 16777216
instance (x y : Int) : Decidable (EvP x y) := by unfold EvP; infer_instance
theorem even_eq (x y : Int) : curve_Even.f x y = some (decide (EvP x y)) := by
  unfold curve_Even.f
  rw [and1, and1]
  by_cases h1 : x % 2 = 0
  · rw [if_pos h1]
    by_cases h2 : y % 2 = 0
    · rw [if_pos h2]
      by_cases h3 : mx x y ≤ 16777216
      · rw [if_pos h3]; congr 1; apply decide_eq_decide.mpr; unfold EvP; unfold mx at h3; unfold mn; omega
      · rw [if_neg h3]; congr 1; symm; apply decide_eq_false; unfold EvP; unfold mx at h3; omega
    · rw [if_neg h2]; congr 1; symm; apply decide_eq_false; unfold EvP; omega
  · rw [if_neg h1]; congr 1; symm; apply decide_eq_false; unfold EvP; omega
theorem tmod2 (x : Int) : Int.tmod x 2 = 0 ↔ x % 2 = 0 := by rw [← Int.dvd_iff_tmod_eq_zero, Int.dvd_iff_emod_eq_zero]
theorem evenR_eq (x y : Int) (k : Nat) (hk : 10 ≤ k) : celluloidref16_Even.f k x y = some (decide (EvP x y)) := by
  obtain ⟨k, rfl⟩ : ∃ m, k = m + 10 := ⟨k - 10, by omega⟩
  have step : ∀ (i : Nat) (k : Nat), i < 2 → celluloidref16_Even.l0 (k + 1) [x, y] 2 (i : Int) = if rd [x, y] (i : Int) % 2 = 0 ∧ rd [x, y] (i : Int) ≤ 16777216 ∧ -16777216 ≤ rd [x, y] (i : Int) then celluloidref16_Even.l0 k [x, y] 2 ((i : Int) + 1) else some false := by
    intro i k hi
    rw [celluloidref16_Even.l0, if_pos (by omega), if_pos (by omega), if_pos (by simp; omega)]
    generalize rd [x, y] (i : Int) = z
    have ht := tmod2 z
    by_cases h1 : z % 2 = 0
    · rw [if_pos (ht.mpr h1)]
      by_cases h2 : z > 16777216
      · rw [if_pos h2, if_neg (by omega)]
      · rw [if_neg h2]
        by_cases h3 : z < -16777216
        · rw [if_pos h3, if_neg (by omega)]
        · rw [if_neg h3, if_pos (by omega), w64_id (by omega) (by omega)]
    · rw [if_neg (fun h => h1 (ht.mp h)), if_neg (by omega)]
  have e : celluloidref16_Even.f (k + 10) x y = celluloidref16_Even.l0 (k + 10) [x, y] 2 ((0 : Nat) : Int) := rfl
  rw [e, step 0 (k + 9) (by omega)]
  have r0 : rd [x, y] ((0 : Nat) : Int) = x := rfl
  have r1 : rd [x, y] ((1 : Nat) : Int) = y := rfl
  rw [r0]
  by_cases h : x % 2 = 0 ∧ x ≤ 16777216 ∧ -16777216 ≤ x
  · rw [if_pos h, show ((0 : Nat) : Int) + 1 = ((1 : Nat) : Int) from rfl, step 1 (k + 8) (by omega), r1]
    by_cases h' : y % 2 = 0 ∧ y ≤ 16777216 ∧ -16777216 ≤ y
    · rw [if_pos h', celluloidref16_Even.l0, if_neg (by omega)]; congr 1; symm; apply decide_eq_true; unfold EvP; omega
    · rw [if_neg h']; congr 1; symm; apply decide_eq_false; unfold EvP; omega
  · rw [if_neg h]; congr 1; symm; apply decide_eq_false; unfold EvP; omega
/-- Numbers whose product fits. -/
theorem pb {a b : Int} (ha : -33554432 ≤ a ∧ a ≤ 33554432) (hb : -33554432 ≤ b ∧ b ≤ 33554432) : -1125899906842624 ≤ a * b ∧ a * b ≤ 1125899906842624 := by
  have h1 := Int.mul_nonneg (a := 33554432 - a) (b := 33554432 - b) (by omega) (by omega)
  have h2 := Int.mul_nonneg (a := 33554432 + a) (b := 33554432 + b) (by omega) (by omega)
  have h3 := Int.mul_nonneg (a := 33554432 - a) (b := 33554432 + b) (by omega) (by omega)
  have h4 := Int.mul_nonneg (a := 33554432 + a) (b := 33554432 - b) (by omega) (by omega)
  have e1 : (33554432 - a) * (33554432 - b) = 1125899906842624 - 33554432 * a - 33554432 * b + a * b := by grind
  have e2 : (33554432 + a) * (33554432 + b) = 1125899906842624 + 33554432 * a + 33554432 * b + a * b := by grind
  have e3 : (33554432 - a) * (33554432 + b) = 1125899906842624 - 33554432 * a + 33554432 * b - a * b := by grind
  have e4 : (33554432 + a) * (33554432 - b) = 1125899906842624 + 33554432 * a - 33554432 * b - a * b := by grind
  omega
/-- A segment. -/
abbrev Sg := S27
def segR (s : Sg) : Prop := EvP s.f0.f0 s.f0.f1 ∧ EvP s.f1.f0 s.f1.f1 ∧ (0 ≤ s.f2 ∧ s.f2 < 256) ∧ 0 ≤ s.f3 ∧ s.f3 < 256
instance (s : Sg) : Decidable (segR s) := by unfold segR; infer_instance
/-- May a sample be at a part? -/
def oddP (n : Int) : Prop := n % 2 = 1 ∧ -16777216 ≤ n ∧ n ≤ 16777216
instance (n : Int) : Decidable (oddP n) := by unfold oddP; infer_instance
/-- Does a segment that goes down from a to b cross a sample's row, left of the sample? -/
def hitV (ax ay bx bz x y : Int) : Prop := ay ≤ y ∧ y ≤ bz ∧ (bx - ax) * (y - ay) ≤ (x - ax) * (bz - ay)
instance (ax ay bx bz x y : Int) : Decidable (hitV ax ay bx bz x y) := by unfold hitV; infer_instance
def dnS (s : Sg) : Int × Int × Int × Int × Int × Int := if s.f0.f1 ≤ s.f1.f1 then (s.f0.f0, s.f0.f1, s.f1.f0, s.f1.f1, s.f2, s.f3) else (s.f1.f0, s.f1.f1, s.f0.f0, s.f0.f1, s.f3, s.f2)
def hit (s : Sg) (x y : Int) : Prop := hitV (dnS s).1 (dnS s).2.1 (dnS s).2.2.1 (dnS s).2.2.2.1 x y
instance (s : Sg) (x y : Int) : Decidable (hit s x y) := by unfold hit; infer_instance
def gvS (s : Sg) : Int := (dnS s).2.2.2.2.1
def tkS (s : Sg) : Int := (dnS s).2.2.2.2.2
def ind (a b : Int) : Int := if a = b then 1 else 0
/-- What a segment winds a sample by a style. -/
def cwS (st x y : Int) (s : Sg) : Int := if segR s ∧ hit s x y then ind (gvS s) st - ind (tkS s) st else 0
/-- .. and all of them. -/
def wS (l : List Sg) (st x y : Int) : Int := (l.map (cwS st x y)).sum
theorem wS_nil (st x y : Int) : wS [] st x y = 0 := rfl
theorem wS_cons (s : Sg) (l : List Sg) (st x y : Int) : wS (s :: l) st x y = cwS st x y s + wS l st x y := by unfold wS; simp
theorem ind_bd (a b : Int) : 0 ≤ ind a b ∧ ind a b ≤ 1 := by unfold ind; split <;> omega
theorem cwS_bd (st x y : Int) (s : Sg) : -1 ≤ cwS st x y s ∧ cwS st x y s ≤ 1 := by
  unfold cwS
  split
  · have := ind_bd (gvS s) st; have := ind_bd (tkS s) st; omega
  · omega
theorem rds (l : List Sg) (i : Nat) (h : i < l.length) : rd_T27 l (i : Int) = l[i] := by
  unfold rd_T27; rw [Int.toNat_natCast]; simp [List.getD_eq_getElem?_getD, h]
theorem drop_sg (l : List Sg) (i : Nat) (h : i < l.length) : l.drop i = l[i] :: l.drop (i + 1) := List.drop_eq_getElem_cons h
theorem seg_eq (s : Sg) : sweep_RightSeg.f s.f0.f0 s.f0.f1 s.f1.f0 s.f1.f1 s.f2 s.f3 = some (decide (segR s)) := by
  unfold sweep_RightSeg.f
  rw [even_eq, even_eq, Option.bind_some, Option.bind_some]
  unfold segR
  by_cases h1 : EvP s.f0.f0 s.f0.f1
  · rw [if_pos (decide_eq_true h1)]
    by_cases h2 : EvP s.f1.f0 s.f1.f1
    · rw [if_pos (decide_eq_true h2)]
      by_cases h3 : mn s.f2 s.f3 ≥ 0
      · rw [if_pos h3]; congr 1
        unfold mn at h3
        exact decide_eq_decide.mpr ⟨fun h => by unfold mx at h; exact ⟨h1, h2, by omega⟩, fun h => by have := h.2.2; unfold mx; omega⟩
      · rw [if_neg h3]; congr 1; symm; apply decide_eq_false; intro h; apply h3; have := h.2.2; unfold mn; omega
    · rw [if_neg (by simpa using h2)]; congr 1; symm; apply decide_eq_false; intro h; exact h2 h.2.1
  · rw [if_neg (by simpa using h1)]; congr 1; symm; apply decide_eq_false; intro h; exact h1 h.1
theorem down_eq (s : Sg) : sweep_down.f s.f0.f0 s.f0.f1 s.f1.f0 s.f1.f1 s.f2 s.f3 = some (dnS s) := by
  unfold sweep_down.f dnS
  by_cases h : s.f0.f1 ≤ s.f1.f1
  · rw [if_pos h, if_pos h]
  · rw [if_neg h, if_neg h]
theorem sample_eq (n : Int) : sweep_sample.f n = some (decide (oddP n)) := by
  unfold sweep_sample.f
  rw [and1]
  unfold oddP
  by_cases h1 : n % 2 = 1
  · rw [if_pos h1]
    by_cases h2 : n ≥ -16777216
    · rw [if_pos h2]; congr 1; exact decide_eq_decide.mpr (by omega)
    · rw [if_neg h2]; congr 1; symm; apply decide_eq_false; omega
  · rw [if_neg h1]; congr 1; symm; apply decide_eq_false; omega
theorem odd_eq (n : Int) : celluloidlaw17_odd.f n = some (decide (oddP n)) := by
  unfold celluloidlaw17_odd.f oddP
  have ht := tmod2 n
  by_cases h1 : n % 2 = 0
  · rw [if_pos (ht.mpr h1)]; congr 1; symm; apply decide_eq_false; omega
  · rw [if_neg (fun h => h1 (ht.mp h))]
    by_cases h2 : n ≥ -16777216
    · rw [if_pos h2]; congr 1; exact decide_eq_decide.mpr (by omega)
    · rw [if_neg h2]; congr 1; symm; apply decide_eq_false; omega
/-- The ends of a right segment that goes down. -/
theorem dn_bd {s : Sg} (h : segR s) : ((dnS s).1 % 2 = 0 ∧ -16777216 ≤ (dnS s).1 ∧ (dnS s).1 ≤ 16777216) ∧ ((dnS s).2.1 % 2 = 0 ∧ -16777216 ≤ (dnS s).2.1 ∧ (dnS s).2.1 ≤ 16777216) ∧ ((dnS s).2.2.1 % 2 = 0 ∧ -16777216 ≤ (dnS s).2.2.1 ∧ (dnS s).2.2.1 ≤ 16777216) ∧ ((dnS s).2.2.2.1 % 2 = 0 ∧ -16777216 ≤ (dnS s).2.2.2.1 ∧ (dnS s).2.2.2.1 ≤ 16777216) ∧ (dnS s).2.1 ≤ (dnS s).2.2.2.1 ∧ (0 ≤ gvS s ∧ gvS s < 256) ∧ 0 ≤ tkS s ∧ tkS s < 256 := by
  obtain ⟨h1, h2, h3, h4⟩ := h
  unfold EvP at h1 h2
  unfold gvS tkS dnS
  by_cases c : s.f0.f1 ≤ s.f1.f1
  · rw [if_pos c]; dsimp only; omega
  · rw [if_neg c]; dsimp only; omega
theorem wound_round {l : List Sg} (hl : l.length ≤ 1000) (st x y : Int) (i : Nat) (hi : i < l.length) (acc : Int) (ha : -(i : Int) ≤ acc ∧ acc ≤ i) (k : Nat) :
    sweep_Wound.l0 (k + 2) st x y acc l (l.length : Int) (i : Int) = sweep_Wound.l0 k st x y (acc + if oddP x ∧ oddP y then cwS st x y l[i] else 0) l (l.length : Int) ((i + 1 : Nat) : Int) := by
  rw [sweep_Wound.l0, if_pos (by omega), if_pos (by omega), if_pos (by omega), rds l i hi, down_eq, Option.bind_some, seg_eq, Option.bind_some, sample_eq, Option.bind_some, sample_eq, Option.bind_some]
  have no : ∀ (g t : Int), sweep_Wound.j1 (k + 1) st x y acc g t l (l.length : Int) (i : Int) true = sweep_Wound.l0 k st x y acc l (l.length : Int) ((i + 1 : Nat) : Int) := by
    intro g t
    rw [sweep_Wound.j1, if_pos rfl, w64_id (by omega) (by omega)]; rfl
  have none_ : ∀ c : Int, c = 0 → sweep_Wound.l0 k st x y acc l (l.length : Int) ((i + 1 : Nat) : Int) = sweep_Wound.l0 k st x y (acc + c) l (l.length : Int) ((i + 1 : Nat) : Int) := by
    rintro c rfl; rw [Int.add_zero]
  by_cases h : segR l[i]
  · rw [if_pos (decide_eq_true h)]
    by_cases hx : oddP x
    · rw [if_pos (decide_eq_true hx)]
      by_cases hy : oddP y
      · rw [if_pos (decide_eq_true hy), if_pos (⟨hx, hy⟩ : oddP x ∧ oddP y)]
        have hb := dn_bd h
        have hx' := hx
        have hy' := hy
        unfold oddP at hx' hy'
        have hH : hit l[i] x y ↔ (dnS l[i]).2.1 ≤ y ∧ y ≤ (dnS l[i]).2.2.2.1 ∧ ((dnS l[i]).2.2.1 - (dnS l[i]).1) * (y - (dnS l[i]).2.1) ≤ (x - (dnS l[i]).1) * ((dnS l[i]).2.2.2.1 - (dnS l[i]).2.1) := Iff.rfl
        have hG : gvS l[i] = (dnS l[i]).2.2.2.2.1 := rfl
        have hT : tkS l[i] = (dnS l[i]).2.2.2.2.2 := rfl
        have hN : ¬ hit l[i] x y → cwS st x y l[i] = 0 := fun g => by unfold cwS; rw [if_neg (fun z => g z.2)]
        have hY : hit l[i] x y → cwS st x y l[i] = ind (gvS l[i]) st - ind (tkS l[i]) st := fun g => by unfold cwS; rw [if_pos ⟨h, g⟩]
        rw [hG, hT] at hY
        generalize cwS st x y l[i] = cw at *
        generalize (dnS l[i]).1 = ax at *
        generalize (dnS l[i]).2.1 = ay at *
        generalize (dnS l[i]).2.2.1 = bx at *
        generalize (dnS l[i]).2.2.2.1 = bz at *
        generalize (dnS l[i]).2.2.2.2.1 = g at *
        generalize (dnS l[i]).2.2.2.2.2 = t at *
        by_cases c1 : y < ay
        · rw [if_pos c1, no]; exact none_ _ (hN (fun z => by have := hH.mp z; omega))
        · rw [if_neg c1]
          by_cases c2 : y > bz
          · rw [if_pos c2, no]; exact none_ _ (hN (fun z => by have := hH.mp z; omega))
          · rw [if_neg c2]
            have p1 := pb (a := bx - ax) (b := y - ay) (by omega) (by omega)
            have p2 := pb (a := x - ax) (b := bz - ay) (by omega) (by omega)
            rw [w64_id (n := bx - ax) (by omega) (by omega), w64_id (n := y - ay) (by omega) (by omega), w64_id (n := x - ax) (by omega) (by omega), w64_id (n := bz - ay) (by omega) (by omega), w64_id (n := (bx - ax) * (y - ay)) (by omega) (by omega), w64_id (n := (x - ax) * (bz - ay)) (by omega) (by omega)]
            by_cases c3 : (bx - ax) * (y - ay) > (x - ax) * (bz - ay)
            · rw [decide_eq_true c3, no]; exact none_ _ (hN (fun z => by have := (hH.mp z).2.2; omega))
            · rw [decide_eq_false c3, hY (hH.mpr ⟨by omega, by omega, by omega⟩), sweep_Wound.j1, if_neg (by simp), w64_id (n := (i : Int) + 1) (by omega) (by omega), show (i : Int) + 1 = ((i + 1 : Nat) : Int) by omega]
              unfold ind
              by_cases c4 : g = st
              · rw [if_pos c4, if_pos c4]
                by_cases c5 : t = st
                · rw [if_pos c5, if_pos c5, w64_id (n := acc + 1) (by omega) (by omega), w64_id (n := acc + 1 - 1) (by omega) (by omega), show acc + 1 - 1 = acc + (1 - 1) by omega]
                · rw [if_neg c5, if_neg c5, w64_id (n := acc + 1) (by omega) (by omega), show acc + 1 = acc + (1 - 0) by omega]
              · rw [if_neg c4, if_neg c4]
                by_cases c5 : t = st
                · rw [if_pos c5, if_pos c5, w64_id (n := acc - 1) (by omega) (by omega), show acc - 1 = acc + (0 - 1) by omega]
                · rw [if_neg c5, if_neg c5, show acc + (0 - 0) = acc by omega]
      · rw [if_neg (by simpa using hy), no]; exact none_ _ (if_neg (fun g => hy g.2))
    · rw [if_neg (by simpa using hx), no]; exact none_ _ (if_neg (fun g => hx g.1))
  · rw [if_neg (by simpa using h), no]
    have hz : cwS st x y l[i] = 0 := by unfold cwS; rw [if_neg (fun g => h g.1)]
    refine none_ _ ?_
    rw [hz]; split <;> rfl
theorem wound_l0 {l : List Sg} (hl : l.length ≤ 1000) (st x y : Int) : ∀ (d i k : Nat) (acc : Int), d + i = l.length → -(i : Int) ≤ acc ∧ acc ≤ i → 2 * d < k →
    sweep_Wound.l0 k st x y acc l (l.length : Int) (i : Int) = some (acc + if oddP x ∧ oddP y then wS (l.drop i) st x y else 0) := by
  intro d
  induction d with
  | zero =>
    intro i k acc h ha hk
    obtain ⟨k, rfl⟩ : ∃ m, k = m + 1 := ⟨k - 1, by omega⟩
    rw [sweep_Wound.l0, if_neg (by omega), List.drop_of_length_le (by omega), wS_nil]; simp
  | succ d ih =>
    intro i k acc h ha hk
    obtain ⟨k, rfl⟩ : ∃ m, k = m + 2 := ⟨k - 2, by omega⟩
    have hi : i < l.length := by omega
    have hc := cwS_bd st x y l[i]
    rw [wound_round hl st x y i hi acc ha k, ih (i + 1) k _ (by omega) (by split <;> omega) (by omega), drop_sg l i hi, wS_cons]
    by_cases g : oddP x ∧ oddP y
    · rw [if_pos g, if_pos g, if_pos g, Int.add_assoc]
    · rw [if_neg g, if_neg g, if_neg g, Int.add_zero]
theorem wound_eq {l : List Sg} (hl : l.length ≤ 1000) (st x y : Int) (k : Nat) (hk : 2001 ≤ k) : sweep_Wound.f k l st x y = some (if oddP x ∧ oddP y then wS l st x y else 0) := by
  unfold sweep_Wound.f
  have := wound_l0 hl st x y l.length 0 k 0 (by omega) (by omega) (by omega)
  rw [List.drop_zero, Int.zero_add] at this
  exact this
theorem segR_eq (s : Sg) (k : Nat) (hk : 10 ≤ k) : celluloidref17_Right.f k s.f0.f0 s.f0.f1 s.f1.f0 s.f1.f1 s.f2 s.f3 = some (decide (segR s)) := by
  unfold celluloidref17_Right.f
  rw [evenR_eq _ _ k hk, evenR_eq _ _ k hk, Option.bind_some, Option.bind_some]
  unfold segR
  by_cases h1 : EvP s.f0.f0 s.f0.f1
  · rw [if_pos (decide_eq_true h1)]
    by_cases h2 : EvP s.f1.f0 s.f1.f1
    · rw [if_pos (decide_eq_true h2)]
      by_cases h3 : s.f2 ≥ 0
      · rw [if_pos h3]
        by_cases h4 : s.f2 < 256
        · rw [if_pos h4]
          by_cases h5 : s.f3 ≥ 0
          · rw [if_pos h5]; congr 1; exact decide_eq_decide.mpr ⟨fun h => ⟨h1, h2, ⟨h3, h4⟩, h5, h⟩, fun h => h.2.2.2.2⟩
          · rw [if_neg h5]; congr 1; symm; apply decide_eq_false; intro h; exact h5 h.2.2.2.1
        · rw [if_neg h4]; congr 1; symm; apply decide_eq_false; intro h; exact h4 h.2.2.1.2
      · rw [if_neg h3]; congr 1; symm; apply decide_eq_false; intro h; exact h3 h.2.2.1.1
    · rw [if_neg (by simpa using h2)]; congr 1; symm; apply decide_eq_false; intro h; exact h2 h.2.1
  · rw [if_neg (by simpa using h1)]; congr 1; symm; apply decide_eq_false; intro h; exact h1 h.1
/-- Are all of them right? -/
def allS (l : List Sg) : Bool := l.all fun s => decide (segR s)
theorem allS_of {l : List Sg} (h : allS l = true) : ∀ s ∈ l, segR s := by intro s hs; unfold allS at h; rw [List.all_eq_true] at h; exact of_decide_eq_true (h s hs)
theorem right_l0 {l : List Sg} (hl : l.length ≤ 1000) : ∀ (d i k : Nat), d + i = l.length → d + 11 ≤ k → celluloidlaw17_right.l0 k l (l.length : Int) (i : Int) = some (allS (l.drop i)) := by
  intro d
  induction d with
  | zero =>
    intro i k h hk
    obtain ⟨k, rfl⟩ : ∃ m, k = m + 1 := ⟨k - 1, by omega⟩
    rw [celluloidlaw17_right.l0, if_neg (by omega), List.drop_of_length_le (by omega)]; rfl
  | succ d ih =>
    intro i k h hk
    obtain ⟨k, rfl⟩ : ∃ m, k = m + 1 := ⟨k - 1, by omega⟩
    have hi : i < l.length := by omega
    rw [celluloidlaw17_right.l0, if_pos (by omega), if_pos (by omega), if_pos (by omega), rds l i hi, segR_eq l[i] k (by omega), Option.bind_some, drop_sg l i hi]
    unfold allS
    rw [List.all_cons]
    by_cases g : segR l[i]
    · rw [decide_eq_true g, if_pos rfl, w64_id (n := (i : Int) + 1) (by omega) (by omega), show (i : Int) + 1 = ((i + 1 : Nat) : Int) by omega, Bool.true_and]
      exact ih (i + 1) k (by omega) (by omega)
    · rw [decide_eq_false g, if_neg (by simp), Bool.false_and]
theorem right_eq {l : List Sg} (hl : l.length ≤ 1000) (k : Nat) (hk : 1011 ≤ k) : celluloidlaw17_right.f k l = some (allS l) := by
  unfold celluloidlaw17_right.f
  have := right_l0 hl l.length 0 k (by omega) (by omega)
  rw [List.drop_zero] at this
  exact this
end Go.Proofs.Ytgmegmhioiljcaa.P
namespace Go.Proofs.Ytgmegmhioiljcaa.P
open Go.RowKit Go.Proofs.YtgmegmhioiljcaaW.PrintWords Go.Proofs.YtgmegmhioiljcaaW.PrintLast Go.Proofs.YtgmegmhioiljcaaW.PrintMore
theorem awake_at : celluloidlaw17_awake.f 300 = some true := by kernel_rfl
theorem awake_eq (k : Nat) (hk : 300 ≤ k) : celluloidlaw17_awake.f k = some true := at_rounds celluloidlaw17_awake.mono hk awake_at
end Go.Proofs.Ytgmegmhioiljcaa.P
namespace Go.Proofs.Ytgmegmhioiljcaa.Pure
open Go.RowKit Go.Proofs.Ytgmegmhioiljcaa.P Go.Proofs.YtgmegmhioiljcaaW.PrintWords Go.Proofs.YtgmegmhioiljcaaW.PrintLast Go.Proofs.YtgmegmhioiljcaaW.PrintMore
/-- A segment shifted. -/
def shS (dx dy : Int) (s : Sg) : Sg := ⟨⟨wrap64 (s.f0.f0 + dx), wrap64 (s.f0.f1 + dy)⟩, ⟨wrap64 (s.f1.f0 + dx), wrap64 (s.f1.f1 + dy)⟩, s.f2, s.f3⟩
theorem hitV_sh (ax ay bx bz x y dx dy : Int) : hitV (ax + dx) (ay + dy) (bx + dx) (bz + dy) (x + dx) (y + dy) ↔ hitV ax ay bx bz x y := by
  have e1 : bx + dx - (ax + dx) = bx - ax := by omega
  have e2 : y + dy - (ay + dy) = y - ay := by omega
  have e3 : x + dx - (ax + dx) = x - ax := by omega
  have e4 : bz + dy - (ay + dy) = bz - ay := by omega
  unfold hitV
  rw [e1, e2, e3, e4]
  exact ⟨fun ⟨a, b, c⟩ => ⟨by omega, by omega, c⟩, fun ⟨a, b, c⟩ => ⟨by omega, by omega, c⟩⟩
theorem cw_sh0 {a b c d f g dx dy : Int} (st x y : Int) (r : segR ⟨⟨a, b⟩, ⟨c, d⟩, f, g⟩) (r' : segR ⟨⟨a + dx, b + dy⟩, ⟨c + dx, d + dy⟩, f, g⟩) :
    cwS st (x + dx) (y + dy) ⟨⟨a + dx, b + dy⟩, ⟨c + dx, d + dy⟩, f, g⟩ = cwS st x y ⟨⟨a, b⟩, ⟨c, d⟩, f, g⟩ := by
  by_cases q : b ≤ d
  · have e1 : dnS ⟨⟨a, b⟩, ⟨c, d⟩, f, g⟩ = (a, b, c, d, f, g) := by unfold dnS; exact if_pos q
    have e2 : dnS ⟨⟨a + dx, b + dy⟩, ⟨c + dx, d + dy⟩, f, g⟩ = (a + dx, b + dy, c + dx, d + dy, f, g) := by unfold dnS; exact if_pos (by dsimp only; omega)
    have h : hit ⟨⟨a + dx, b + dy⟩, ⟨c + dx, d + dy⟩, f, g⟩ (x + dx) (y + dy) ↔ hit ⟨⟨a, b⟩, ⟨c, d⟩, f, g⟩ x y := by unfold hit; rw [e1, e2]; exact hitV_sh a b c d x y dx dy
    unfold cwS gvS tkS
    rw [e1, e2]
    by_cases z : hit ⟨⟨a, b⟩, ⟨c, d⟩, f, g⟩ x y
    · rw [if_pos ⟨r', h.mpr z⟩, if_pos ⟨r, z⟩]
    · rw [if_neg (fun t => z (h.mp t.2)), if_neg (fun t => z t.2)]
  · have e1 : dnS ⟨⟨a, b⟩, ⟨c, d⟩, f, g⟩ = (c, d, a, b, g, f) := by unfold dnS; exact if_neg q
    have e2 : dnS ⟨⟨a + dx, b + dy⟩, ⟨c + dx, d + dy⟩, f, g⟩ = (c + dx, d + dy, a + dx, b + dy, g, f) := by unfold dnS; exact if_neg (by dsimp only; omega)
    have h : hit ⟨⟨a + dx, b + dy⟩, ⟨c + dx, d + dy⟩, f, g⟩ (x + dx) (y + dy) ↔ hit ⟨⟨a, b⟩, ⟨c, d⟩, f, g⟩ x y := by unfold hit; rw [e1, e2]; exact hitV_sh c d a b x y dx dy
    unfold cwS gvS tkS
    rw [e1, e2]
    by_cases z : hit ⟨⟨a, b⟩, ⟨c, d⟩, f, g⟩ x y
    · rw [if_pos ⟨r', h.mpr z⟩, if_pos ⟨r, z⟩]
    · rw [if_neg (fun t => z (h.mp t.2)), if_neg (fun t => z t.2)]
theorem sh_plain {s : Sg} (r : segR s) {dx dy : Int} (hx : -65536 ≤ dx ∧ dx ≤ 65536) (hy : -65536 ≤ dy ∧ dy ≤ 65536) : shS dx dy s = ⟨⟨s.f0.f0 + dx, s.f0.f1 + dy⟩, ⟨s.f1.f0 + dx, s.f1.f1 + dy⟩, s.f2, s.f3⟩ := by
  obtain ⟨⟨_, _, h1, h2, h3, h4⟩, ⟨_, _, h5, h6, h7, h8⟩, _⟩ := r
  unfold shS
  rw [w64_id (n := s.f0.f0 + dx) (by omega) (by omega), w64_id (n := s.f0.f1 + dy) (by omega) (by omega), w64_id (n := s.f1.f0 + dx) (by omega) (by omega), w64_id (n := s.f1.f1 + dy) (by omega) (by omega)]
theorem cw_sh {s : Sg} (r : segR s) {dx dy : Int} (hx : -65536 ≤ dx ∧ dx ≤ 65536) (hy : -65536 ≤ dy ∧ dy ≤ 65536) (r' : segR (shS dx dy s)) (st x y : Int) : cwS st (x + dx) (y + dy) (shS dx dy s) = cwS st x y s := by
  rw [sh_plain r hx hy] at r' ⊢
  exact cw_sh0 st x y r r'
theorem w_sh {dx dy : Int} (hx : -65536 ≤ dx ∧ dx ≤ 65536) (hy : -65536 ≤ dy ∧ dy ≤ 65536) (st x y : Int) : ∀ l : List Sg, (∀ s ∈ l, segR s) → (∀ s ∈ l.map (shS dx dy), segR s) → wS (l.map (shS dx dy)) st (x + dx) (y + dy) = wS l st x y
  | [], _, _ => rfl
  | s :: l, h, g => by
    rw [List.map_cons, wS_cons, wS_cons, cw_sh (h s List.mem_cons_self) hx hy (g _ (by rw [List.map_cons]; exact List.mem_cons_self)),
      w_sh hx hy st x y l (fun t ht => h t (List.mem_cons_of_mem _ ht)) (fun t ht => g t (by rw [List.map_cons]; exact List.mem_cons_of_mem _ ht))]
theorem shifts_i {i : Nat} (h : i < 1024) : wrap64 ((i : Int) + 1) = ((i + 1 : Nat) : Int) := by rw [w64_id (by omega) (by omega)]; rfl
theorem shifts_l0 {l : List Sg} (hl : l.length ≤ 300) (st x y dx dy : Int) : ∀ (d i k : Nat), d + i = l.length →
    celluloidlaw17_SweepShifts.l0 (k + d + 1) l st x y ((l.take i).map (shS dx dy)) l (l.length : Int) (i : Int) dx dy = celluloidlaw17_SweepShifts.l0 (k + 1) l st x y (l.map (shS dx dy)) l (l.length : Int) (l.length : Int) dx dy := by
  intro d
  induction d with
  | zero =>
    intro i k h
    rw [show i = l.length by omega, List.take_length]
  | succ d ih =>
    intro i k h
    have hi : i < l.length := by omega
    have c0 : 0 ≤ (i : Int) := Int.natCast_nonneg i
    have c1 : (i : Int) < (l.length : Int) := by omega
    have e1 : (l.take i).map (shS dx dy) ++ [⟨⟨wrap64 (l[i].f0.f0 + dx), wrap64 (l[i].f0.f1 + dy)⟩, ⟨wrap64 (l[i].f1.f0 + dx), wrap64 (l[i].f1.f1 + dy)⟩, l[i].f2, l[i].f3⟩] = (l.take (i + 1)).map (shS dx dy) := by
      rw [List.take_succ_eq_append_getElem hi, List.map_append]; rfl
    have e2 : ((l.take i).map (shS dx dy)).length < 2932031007402 := by rw [List.length_map, List.length_take]; omega
    rw [show k + (d + 1) + 1 = (k + d + 1) + 1 by omega, celluloidlaw17_SweepShifts.l0, if_pos c1, if_pos c0, if_pos c1, if_pos e2, rds l i hi, shifts_i (by omega), e1]
    exact ih (i + 1) k (by omega)
theorem shifts_off (l : List Sg) (st x y u v : Int) (k : Nat) (hk : 301 ≤ k) : celluloidlaw17_SweepShifts.j0 k l st x y u v true = some true := by
  obtain ⟨k, rfl⟩ : ∃ m, k = m + 1 := ⟨k - 1, by omega⟩
  rw [celluloidlaw17_SweepShifts.j0, if_pos rfl, awake_eq k (by omega)]; rfl
theorem shifts_out (l m : List Sg) (st x y u v : Int) (k : Nat) (hk : 301 ≤ k) : celluloidlaw17_SweepShifts.j2 k l st x y m true u v = some true := by
  obtain ⟨k, rfl⟩ : ∃ m, k = m + 1 := ⟨k - 1, by omega⟩
  rw [celluloidlaw17_SweepShifts.j2, if_pos rfl, awake_eq k (by omega)]; rfl
theorem wi16 {n : Int} (h : (Lit.int .i16 n).wf = true) : -32768 ≤ n ∧ n ≤ 32767 := by
  simp [Lit.wf, IntKind.min, IntKind.max, IntKind.bits, IntKind.signed] at h; omega
theorem shifts_w {u : Int} (h : -32768 ≤ u ∧ u ≤ 32767) : wrap64 (2 * wrap64 u) = 2 * u := by
  rw [w64_id (n := u) (by omega) (by omega), w64_id (by omega) (by omega)]
theorem shifts_x {x d : Int} (h : oddP x) (hd : -65536 ≤ d ∧ d ≤ 65536) : wrap64 (x + d) = x + d := by
  obtain ⟨_, h1, h2⟩ := h
  rw [w64_id (by omega) (by omega)]
theorem SweepShifts : celluloidlaw17_SweepShifts.Pure := by
  intro l st x y u v _ _ _ _ hu hv
  have bu := wi16 hu
  have bv := wi16 hv
  refine ⟨l.length + 5000, ?_⟩
  unfold celluloidlaw17_SweepShifts.f
  by_cases g : (l.length : Int) > 300
  · rw [if_pos g]; exact shifts_off _ _ _ _ _ _ _ (by omega)
  have hl : l.length ≤ 300 := by omega
  rw [if_neg g, right_eq (by omega) _ (by omega), Option.bind_some]
  by_cases r : allS l = true
  case neg => rw [if_neg r]; exact shifts_off _ _ _ _ _ _ _ (by omega)
  rw [if_pos r, odd_eq, Option.bind_some]
  by_cases ox : oddP x
  case neg => rw [decide_eq_false ox, if_neg (by simp)]; exact shifts_off _ _ _ _ _ _ _ (by omega)
  rw [decide_eq_true ox, if_pos rfl, odd_eq, Option.bind_some]
  by_cases oy : oddP y
  case neg => rw [decide_eq_false oy]; exact shifts_off _ _ _ _ _ _ _ (by omega)
  rw [decide_eq_true oy, show l.length + 5000 = (l.length + 4999) + 1 by omega, celluloidlaw17_SweepShifts.j0, if_neg (by simp), shifts_w bu, shifts_w bv]
  have hx : -65536 ≤ 2 * u ∧ 2 * u ≤ 65536 := by omega
  have hy : -65536 ≤ 2 * v ∧ 2 * v ≤ 65536 := by omega
  clear hu hv
  generalize 2 * u = dx at *
  generalize 2 * v = dy at *
  have e0 := shifts_l0 hl st x y dx dy l.length 0 4998 (by omega)
  rw [show l.length + 4999 = 4998 + l.length + 1 by omega]
  refine e0.trans ?_
  clear e0
  have hm : (l.map (shS dx dy)).length ≤ 300 := by rw [List.length_map]; exact hl
  rw [celluloidlaw17_SweepShifts.l0, if_neg (by omega), right_eq (by omega) _ (by omega), Option.bind_some, shifts_x ox hx, shifts_x oy hy]
  by_cases r' : allS (l.map (shS dx dy)) = true
  case neg => rw [if_neg r']; exact shifts_out _ _ _ _ _ _ _ _ (by omega)
  rw [if_pos r', odd_eq, Option.bind_some]
  by_cases px : oddP (x + dx)
  case neg => rw [decide_eq_false px, if_neg (by simp)]; exact shifts_out _ _ _ _ _ _ _ _ (by omega)
  rw [decide_eq_true px, if_pos rfl, odd_eq, Option.bind_some]
  by_cases py : oddP (y + dy)
  case neg => rw [decide_eq_false py]; exact shifts_out _ _ _ _ _ _ _ _ (by omega)
  rw [decide_eq_true py, show (4998 : Nat) = 4997 + 1 from rfl, celluloidlaw17_SweepShifts.j2, if_neg (by simp), wound_eq (by omega) _ _ _ _ (by omega), Option.bind_some, shifts_x ox hx, shifts_x oy hy,
    wound_eq (by omega) _ _ _ _ (by omega), Option.bind_some, if_pos (c := oddP x ∧ oddP y) ⟨ox, oy⟩, if_pos (c := oddP (x + dx) ∧ oddP (y + dy)) ⟨px, py⟩, w_sh hx hy st x y l (allS_of r) (allS_of r'), if_pos rfl, awake_eq _ (by omega)]
  rfl
end Go.Proofs.Ytgmegmhioiljcaa.Pure
