/- How often any sample is wound by any style, by any segments, is what the document says. (prune.py) -/
import Derived.Test.YtgmegmhioiljcaaPx0
import Derived.Test.YtgmegmhioiljcaaPx1
import Derived.Test.YtgmegmhioiljcaaPx2
import Derived.Test.YtgmegmhioiljcaaPx6
import Derived.Test.YtgmegmhioiljcaaPx7
import Derived.Test.YtgmegmhioiljcaaPx8
import Derived.KernelRfl
import Derived.Laws.BitsAllLaws
import Derived.Laws.MathBits
import Derived.Lib.BitFns
import Derived.Test.YtgmegmhioiljcaaSaySweepWinds
namespace Go.Proofs.Ytgmegmhioiljcaa.P
open Go.RowKit Go.Proofs.YtgmegmhioiljcaaW.PrintWords Go.Proofs.YtgmegmhioiljcaaW.PrintLast Go.Proofs.YtgmegmhioiljcaaW.PrintMore
theorem w64_id {n : Int} (h0 : -9223372036854775808 ≤ n) (h1 : n < 9223372036854775808) : wrap64 n = n := by unfold wrap64; omega
structure Digit (u v v1 v0 u1 Q : Int) : Prop where
  hv : v = v1 * 4294967296 + v0
  v0a : 0 ≤ v0
  v0b : v0 < 4294967296
  v1a : 2147483648 ≤ v1
  v1b : v1 < 4294967296
  ua : 0 ≤ u
  ub : u < v
  u1a : 0 ≤ u1
  u1b : u1 < 4294967296
  qa : Q * v ≤ u * 4294967296 + u1
  qb : u * 4294967296 + u1 < Q * v + v
theorem lt_of_mul {a b v : Int} (hv : 0 < v) (h : a * v < b * v) : a < b := by
  rcases Int.lt_or_le a b with h1 | h1
  · exact h1
  · have := Int.mul_le_mul_of_nonneg_right h1 (Int.le_of_lt hv); omega
namespace Digit
variable {u v v1 v0 u1 Q : Int}
theorem vpos (d : Digit u v v1 v0 u1 Q) : 0 < v := by have := d.hv; have := d.v1a; have := d.v0a; omega
theorem q0 (d : Digit u v v1 v0 u1 Q) : 0 ≤ Q := by
  have h := d.qb; have := d.ua; have := d.u1a; have hv := d.vpos
  have : -1 < Q := lt_of_mul hv (by have : (Q + 1) * v = Q * v + v := by rw [Int.add_mul, Int.one_mul]
                                    omega)
  omega
theorem above (d : Digit u v v1 v0 u1 Q) {q : Int} (h : q * v ≤ u * 4294967296 + u1) : q ≤ Q := by
  have : q < Q + 1 := lt_of_mul d.vpos (by have := d.qb; rw [Int.add_mul, Int.one_mul]; omega)
  omega
theorem prod (d : Digit u v v1 v0 u1 Q) {q r : Int} (h : q * v1 + r = u) : q * v = (u - r) * 4294967296 + q * v0 := by
  rw [d.hv, Int.mul_add, ← Int.mul_assoc, show q * v1 = u - r by omega]
/-- It says no: the guess is right. -/
theorem no (d : Digit u v v1 v0 u1 Q) {q r : Int} (h : q * v1 + r = u) (hq : Q ≤ q) (ht : q * v0 ≤ 4294967296 * r + u1) : q = Q := by
  have := d.above (q := q) (by rw [d.prod h]; omega); omega
/-- What is left over is great: the guess is right. -/
theorem out (d : Digit u v v1 v0 u1 Q) {q r : Int} (h : q * v1 + r = u) (hq : Q ≤ q) (hB : q ≤ 4294967296) (hr : 4294967296 ≤ r) : q = Q := by
  refine d.no h hq ?_
  have h0 := d.q0
  have h1 : q * v0 ≤ 4294967296 * v0 := Int.mul_le_mul_of_nonneg_right hB d.v0a
  have := d.v0b; have := d.u1a; omega
end Digit
/-- A digit, out of the division itself. -/
theorem Digit.of {u v v1 v0 u1 : Int} (hv : v = v1 * 4294967296 + v0) (v0a : 0 ≤ v0) (v0b : v0 < 4294967296) (v1a : 2147483648 ≤ v1) (v1b : v1 < 4294967296) (ua : 0 ≤ u) (ub : u < v) (u1a : 0 ≤ u1) (u1b : u1 < 4294967296) :
    Digit u v v1 v0 u1 ((u * 4294967296 + u1) / v) := by
  have h := Int.mul_ediv_add_emod (u * 4294967296 + u1) v
  have hm := Int.emod_nonneg (u * 4294967296 + u1) (show v ≠ 0 by omega)
  have hl := Int.emod_lt_of_pos (u * 4294967296 + u1) (show 0 < v by omega)
  rw [Int.mul_comm] at h
  exact ⟨hv, v0a, v0b, v1a, v1b, ua, ub, u1a, u1b, by omega, by omega⟩
end Go.Proofs.Ytgmegmhioiljcaa.P
namespace Go.Proofs.Ytgmegmhioiljcaa.P
open Go.RowKit Go.Proofs.YtgmegmhioiljcaaW.PrintWords Go.Proofs.YtgmegmhioiljcaaW.PrintLast Go.Proofs.YtgmegmhioiljcaaW.PrintMore
theorem and_low (n : Int) (m : Nat) (hm : m ≤ 62) (c : Int) (hc : c = ((2 ^ m - 1 : Nat) : Int)) : Go.bits .and .i64 n c = n % ((2 ^ m : Nat) : Int) := by
  subst hc
  have hp := Nat.two_pow_pos m
  have hp2 : 2 ^ m ≤ 2 ^ 62 := Nat.pow_le_pow_right (by omega) hm
  have h1 : (BitVec.ofInt 64 ((2 ^ m - 1 : Nat) : Int)).toNat = 2 ^ m - 1 := by
    rw [BitVec.toNat_ofInt]
    generalize 2 ^ m = p at *
    have : (2 : Nat) ^ 64 = 18446744073709551616 := by decide
    rw [this]; omega
  have key : (BitVec.ofInt 64 n &&& BitVec.ofInt 64 ((2 ^ m - 1 : Nat) : Int)).toNat = (n % ((2 ^ 64 : Nat) : Int)).toNat % 2 ^ m := by
    rw [BitVec.toNat_and, BitVec.toNat_ofInt, h1, Nat.and_two_pow_sub_one_eq_mod]
  show IntKind.i64.wrap ((BitVec.ofInt 64 n &&& BitVec.ofInt 64 ((2 ^ m - 1 : Nat) : Int)).toNat : Nat) = n % ((2 ^ m : Nat) : Int)
  rw [key, IntKind.wrap_i64]
  have hdvd : ((2 ^ m : Nat) : Int) ∣ ((2 ^ 64 : Nat) : Int) := by
    rw [Int.natCast_dvd_natCast]; exact Nat.pow_dvd_pow 2 (by omega)
  have e : (((n % ((2 ^ 64 : Nat) : Int)).toNat % 2 ^ m : Nat) : Int) = n % ((2 ^ m : Nat) : Int) := by
    rw [Int.natCast_emod, Int.toNat_of_nonneg (Int.emod_nonneg _ (by decide)), Int.emod_emod_of_dvd _ hdvd]
  rw [e]
  have h0 := Int.emod_nonneg n (show ((2 ^ m : Nat) : Int) ≠ 0 by omega)
  have h2 := Int.emod_lt_of_pos n (show 0 < ((2 ^ m : Nat) : Int) by omega)
  have h62 : (2 : Nat) ^ 62 = 4611686018427387904 := by decide
  generalize n % ((2 ^ m : Nat) : Int) = z at *
  generalize 2 ^ m = p at *
  omega
theorem and1 (n : Int) : Go.bits .and .i64 n 1 = n % 2 := and_low n 1 (by omega) 1 (by decide)
/-- May a point be a curve's? -/
def EvP (x y : Int) : Prop := x % 2 = 0 ∧ y % 2 = 0 ∧ -16777216 ≤ x ∧ x ≤ 16777216 ∧ -16777216 ≤ y ∧ y ≤ 16777216
instance (x y : Int) : Decidable (EvP x y) := by unfold EvP; infer_instance
theorem even_eq (x y : Int) : curve_Even.f x y = some (decide (EvP x y)) := by
  unfold curve_Even.f
  rw [and1, and1]
  by_cases h1 : x % 2 = 0
  · rw [if_pos h1]
    by_cases h2 : y % 2 = 0
    · rw [if_pos h2]
      by_cases h3 : mx x y ≤ 16777216
      · rw [if_pos h3]; congr 1; apply decide_eq_decide.mpr; unfold EvP; unfold mx at h3; unfold mn; omega
      · rw [if_neg h3]; congr 1; symm; apply decide_eq_false; unfold EvP; unfold mx at h3; omega
    · rw [if_neg h2]; congr 1; symm; apply decide_eq_false; unfold EvP; omega
  · rw [if_neg h1]; congr 1; symm; apply decide_eq_false; unfold EvP; omega
theorem tmod2 (x : Int) : Int.tmod x 2 = 0 ↔ x % 2 = 0 := by rw [← Int.dvd_iff_tmod_eq_zero, Int.dvd_iff_emod_eq_zero]
theorem evenR_eq (x y : Int) (k : Nat) (hk : 10 ≤ k) : celluloidref16_Even.f k x y = some (decide (EvP x y)) := by
  obtain ⟨k, rfl⟩ : ∃ m, k = m + 10 := ⟨k - 10, by omega⟩
  have step : ∀ (i : Nat) (k : Nat), i < 2 → celluloidref16_Even.l0 (k + 1) [x, y] 2 (i : Int) = if rd [x, y] (i : Int) % 2 = 0 ∧ rd [x, y] (i : Int) ≤ 16777216 ∧ -16777216 ≤ rd [x, y] (i : Int) then celluloidref16_Even.l0 k [x, y] 2 ((i : Int) + 1) else some false := by
    intro i k hi
    rw [celluloidref16_Even.l0, if_pos (by omega), if_pos (by omega), if_pos (by simp; omega)]
    generalize rd [x, y] (i : Int) = z
    have ht := tmod2 z
    by_cases h1 : z % 2 = 0
    · rw [if_pos (ht.mpr h1)]
      by_cases h2 : z > 16777216
      · rw [if_pos h2, if_neg (by omega)]
      · rw [if_neg h2]
        by_cases h3 : z < -16777216
        · rw [if_pos h3, if_neg (by omega)]
        · rw [if_neg h3, if_pos (by omega), w64_id (by omega) (by omega)]
    · rw [if_neg (fun h => h1 (ht.mp h)), if_neg (by omega)]
  have e : celluloidref16_Even.f (k + 10) x y = celluloidref16_Even.l0 (k + 10) [x, y] 2 ((0 : Nat) : Int) := rfl
  rw [e, step 0 (k + 9) (by omega)]
  have r0 : rd [x, y] ((0 : Nat) : Int) = x := rfl
  have r1 : rd [x, y] ((1 : Nat) : Int) = y := rfl
  rw [r0]
  by_cases h : x % 2 = 0 ∧ x ≤ 16777216 ∧ -16777216 ≤ x
  · rw [if_pos h, show ((0 : Nat) : Int) + 1 = ((1 : Nat) : Int) from rfl, step 1 (k + 8) (by omega), r1]
    by_cases h' : y % 2 = 0 ∧ y ≤ 16777216 ∧ -16777216 ≤ y
    · rw [if_pos h', celluloidref16_Even.l0, if_neg (by omega)]; congr 1; symm; apply decide_eq_true; unfold EvP; omega
    · rw [if_neg h']; congr 1; symm; apply decide_eq_false; unfold EvP; omega
  · rw [if_neg h]; congr 1; symm; apply decide_eq_false; unfold EvP; omega
/-- Numbers whose product fits. -/
theorem pb {a b : Int} (ha : -33554432 ≤ a ∧ a ≤ 33554432) (hb : -33554432 ≤ b ∧ b ≤ 33554432) : -1125899906842624 ≤ a * b ∧ a * b ≤ 1125899906842624 := by
  have h1 := Int.mul_nonneg (a := 33554432 - a) (b := 33554432 - b) (by omega) (by omega)
  have h2 := Int.mul_nonneg (a := 33554432 + a) (b := 33554432 + b) (by omega) (by omega)
  have h3 := Int.mul_nonneg (a := 33554432 - a) (b := 33554432 + b) (by omega) (by omega)
  have h4 := Int.mul_nonneg (a := 33554432 + a) (b := 33554432 - b) (by omega) (by omega)
  have e1 : (33554432 - a) * (33554432 - b) = 1125899906842624 - 33554432 * a - 33554432 * b + a * b := by grind
  have e2 : (33554432 + a) * (33554432 + b) = 1125899906842624 + 33554432 * a + 33554432 * b + a * b := by grind
  have e3 : (33554432 - a) * (33554432 + b) = 1125899906842624 - 33554432 * a + 33554432 * b - a * b := by grind
  have e4 : (33554432 + a) * (33554432 - b) = 1125899906842624 + 33554432 * a - 33554432 * b - a * b := by grind
  omega
/-- A segment. -/
abbrev Sg := S27
def segR (s : Sg) : Prop := EvP s.f0.f0 s.f0.f1 ∧ EvP s.f1.f0 s.f1.f1 ∧ (0 ≤ s.f2 ∧ s.f2 < 256) ∧ 0 ≤ s.f3 ∧ s.f3 < 256
instance (s : Sg) : Decidable (segR s) := by unfold segR; infer_instance
/-- May a sample be at a part? -/
def oddP (n : Int) : Prop := n % 2 = 1 ∧ -16777216 ≤ n ∧ n ≤ 16777216
instance (n : Int) : Decidable (oddP n) := by unfold oddP; infer_instance
/-- Does a segment that goes down from a to b cross a sample's row, left of the sample? -/
def hitV (ax ay bx bz x y : Int) : Prop := ay ≤ y ∧ y ≤ bz ∧ (bx - ax) * (y - ay) ≤ (x - ax) * (bz - ay)
instance (ax ay bx bz x y : Int) : Decidable (hitV ax ay bx bz x y) := by unfold hitV; infer_instance
def dnS (s : Sg) : Int × Int × Int × Int × Int × Int := if s.f0.f1 ≤ s.f1.f1 then (s.f0.f0, s.f0.f1, s.f1.f0, s.f1.f1, s.f2, s.f3) else (s.f1.f0, s.f1.f1, s.f0.f0, s.f0.f1, s.f3, s.f2)
def hit (s : Sg) (x y : Int) : Prop := hitV (dnS s).1 (dnS s).2.1 (dnS s).2.2.1 (dnS s).2.2.2.1 x y
instance (s : Sg) (x y : Int) : Decidable (hit s x y) := by unfold hit; infer_instance
def gvS (s : Sg) : Int := (dnS s).2.2.2.2.1
def tkS (s : Sg) : Int := (dnS s).2.2.2.2.2
def ind (a b : Int) : Int := if a = b then 1 else 0
/-- What a segment winds a sample by a style. -/
def cwS (st x y : Int) (s : Sg) : Int := if segR s ∧ hit s x y then ind (gvS s) st - ind (tkS s) st else 0
/-- .. and all of them. -/
def wS (l : List Sg) (st x y : Int) : Int := (l.map (cwS st x y)).sum
theorem wS_nil (st x y : Int) : wS [] st x y = 0 := rfl
theorem wS_cons (s : Sg) (l : List Sg) (st x y : Int) : wS (s :: l) st x y = cwS st x y s + wS l st x y := by unfold wS; simp
theorem ind_bd (a b : Int) : 0 ≤ ind a b ∧ ind a b ≤ 1 := by unfold ind; split <;> omega
theorem cwS_bd (st x y : Int) (s : Sg) : -1 ≤ cwS st x y s ∧ cwS st x y s ≤ 1 := by
  unfold cwS
  split
  · have := ind_bd (gvS s) st; have := ind_bd (tkS s) st; omega
  · omega
theorem rds (l : List Sg) (i : Nat) (h : i < l.length) : rd_T27 l (i : Int) = l[i] := by
  unfold rd_T27; rw [Int.toNat_natCast]; simp [List.getD_eq_getElem?_getD, h]
theorem drop_sg (l : List Sg) (i : Nat) (h : i < l.length) : l.drop i = l[i] :: l.drop (i + 1) := List.drop_eq_getElem_cons h
theorem seg_eq (s : Sg) : sweep_RightSeg.f s.f0.f0 s.f0.f1 s.f1.f0 s.f1.f1 s.f2 s.f3 = some (decide (segR s)) := by
  unfold sweep_RightSeg.f
  rw [even_eq, even_eq, Option.bind_some, Option.bind_some]
  unfold segR
  by_cases h1 : EvP s.f0.f0 s.f0.f1
  · rw [if_pos (decide_eq_true h1)]
    by_cases h2 : EvP s.f1.f0 s.f1.f1
    · rw [if_pos (decide_eq_true h2)]
      by_cases h3 : mn s.f2 s.f3 ≥ 0
      · rw [if_pos h3]; congr 1
        unfold mn at h3
        exact decide_eq_decide.mpr ⟨fun h => by unfold mx at h; exact ⟨h1, h2, by omega⟩, fun h => by have := h.2.2; unfold mx; omega⟩
      · rw [if_neg h3]; congr 1; symm; apply decide_eq_false; intro h; apply h3; have := h.2.2; unfold mn; omega
    · rw [if_neg (by simpa using h2)]; congr 1; symm; apply decide_eq_false; intro h; exact h2 h.2.1
  · rw [if_neg (by simpa using h1)]; congr 1; symm; apply decide_eq_false; intro h; exact h1 h.1
theorem down_eq (s : Sg) : sweep_down.f s.f0.f0 s.f0.f1 s.f1.f0 s.f1.f1 s.f2 s.f3 = some (dnS s) := by
  unfold sweep_down.f dnS
  by_cases h : s.f0.f1 ≤ s.f1.f1
  · rw [if_pos h, if_pos h]
  · rw [if_neg h, if_neg h]
theorem sample_eq (n : Int) : sweep_sample.f n = some (decide (oddP n)) := by
  unfold sweep_sample.f
  rw [and1]
  unfold oddP
  by_cases h1 : n % 2 = 1
  · rw [if_pos h1]
    by_cases h2 : n ≥ -16777216
    · rw [if_pos h2]; congr 1; exact decide_eq_decide.mpr (by omega)
    · rw [if_neg h2]; congr 1; symm; apply decide_eq_false; omega
  · rw [if_neg h1]; congr 1; symm; apply decide_eq_false; omega
theorem odd_eq (n : Int) : celluloidlaw17_odd.f n = some (decide (oddP n)) := by
  unfold celluloidlaw17_odd.f oddP
  have ht := tmod2 n
  by_cases h1 : n % 2 = 0
  · rw [if_pos (ht.mpr h1)]; congr 1; symm; apply decide_eq_false; omega
  · rw [if_neg (fun h => h1 (ht.mp h))]
    by_cases h2 : n ≥ -16777216
    · rw [if_pos h2]; congr 1; exact decide_eq_decide.mpr (by omega)
    · rw [if_neg h2]; congr 1; symm; apply decide_eq_false; omega
/-- The ends of a right segment that goes down. -/
theorem dn_bd {s : Sg} (h : segR s) : ((dnS s).1 % 2 = 0 ∧ -16777216 ≤ (dnS s).1 ∧ (dnS s).1 ≤ 16777216) ∧ ((dnS s).2.1 % 2 = 0 ∧ -16777216 ≤ (dnS s).2.1 ∧ (dnS s).2.1 ≤ 16777216) ∧ ((dnS s).2.2.1 % 2 = 0 ∧ -16777216 ≤ (dnS s).2.2.1 ∧ (dnS s).2.2.1 ≤ 16777216) ∧ ((dnS s).2.2.2.1 % 2 = 0 ∧ -16777216 ≤ (dnS s).2.2.2.1 ∧ (dnS s).2.2.2.1 ≤ 16777216) ∧ (dnS s).2.1 ≤ (dnS s).2.2.2.1 ∧ (0 ≤ gvS s ∧ gvS s < 256) ∧ 0 ≤ tkS s ∧ tkS s < 256 := by
  obtain ⟨h1, h2, h3, h4⟩ := h
  unfold EvP at h1 h2
  unfold gvS tkS dnS
  by_cases c : s.f0.f1 ≤ s.f1.f1
  · rw [if_pos c]; dsimp only; omega
  · rw [if_neg c]; dsimp only; omega
theorem wound_round {l : List Sg} (hl : l.length ≤ 1000) (st x y : Int) (i : Nat) (hi : i < l.length) (acc : Int) (ha : -(i : Int) ≤ acc ∧ acc ≤ i) (k : Nat) :
    sweep_Wound.l0 (k + 2) st x y acc l (l.length : Int) (i : Int) = sweep_Wound.l0 k st x y (acc + if oddP x ∧ oddP y then cwS st x y l[i] else 0) l (l.length : Int) ((i + 1 : Nat) : Int) := by
  rw [sweep_Wound.l0, if_pos (by omega), if_pos (by omega), if_pos (by omega), rds l i hi, down_eq, Option.bind_some, seg_eq, Option.bind_some, sample_eq, Option.bind_some, sample_eq, Option.bind_some]
  have no : ∀ (g t : Int), sweep_Wound.j1 (k + 1) st x y acc g t l (l.length : Int) (i : Int) true = sweep_Wound.l0 k st x y acc l (l.length : Int) ((i + 1 : Nat) : Int) := by
    intro g t
    rw [sweep_Wound.j1, if_pos rfl, w64_id (by omega) (by omega)]; rfl
  have none_ : ∀ c : Int, c = 0 → sweep_Wound.l0 k st x y acc l (l.length : Int) ((i + 1 : Nat) : Int) = sweep_Wound.l0 k st x y (acc + c) l (l.length : Int) ((i + 1 : Nat) : Int) := by
    rintro c rfl; rw [Int.add_zero]
  by_cases h : segR l[i]
  · rw [if_pos (decide_eq_true h)]
    by_cases hx : oddP x
    · rw [if_pos (decide_eq_true hx)]
      by_cases hy : oddP y
      · rw [if_pos (decide_eq_true hy), if_pos (⟨hx, hy⟩ : oddP x ∧ oddP y)]
        have hb := dn_bd h
        have hx' := hx
        have hy' := hy
        unfold oddP at hx' hy'
        have hH : hit l[i] x y ↔ (dnS l[i]).2.1 ≤ y ∧ y ≤ (dnS l[i]).2.2.2.1 ∧ ((dnS l[i]).2.2.1 - (dnS l[i]).1) * (y - (dnS l[i]).2.1) ≤ (x - (dnS l[i]).1) * ((dnS l[i]).2.2.2.1 - (dnS l[i]).2.1) := Iff.rfl
        have hG : gvS l[i] = (dnS l[i]).2.2.2.2.1 := rfl
        have hT : tkS l[i] = (dnS l[i]).2.2.2.2.2 := rfl
        have hN : ¬ hit l[i] x y → cwS st x y l[i] = 0 := fun g => by unfold cwS; rw [if_neg (fun z => g z.2)]
        have hY : hit l[i] x y → cwS st x y l[i] = ind (gvS l[i]) st - ind (tkS l[i]) st := fun g => by unfold cwS; rw [if_pos ⟨h, g⟩]
        rw [hG, hT] at hY
        generalize cwS st x y l[i] = cw at *
        generalize (dnS l[i]).1 = ax at *
        generalize (dnS l[i]).2.1 = ay at *
        generalize (dnS l[i]).2.2.1 = bx at *
        generalize (dnS l[i]).2.2.2.1 = bz at *
        generalize (dnS l[i]).2.2.2.2.1 = g at *
        generalize (dnS l[i]).2.2.2.2.2 = t at *
        by_cases c1 : y < ay
        · rw [if_pos c1, no]; exact none_ _ (hN (fun z => by have := hH.mp z; omega))
        · rw [if_neg c1]
          by_cases c2 : y > bz
          · rw [if_pos c2, no]; exact none_ _ (hN (fun z => by have := hH.mp z; omega))
          · rw [if_neg c2]
            have p1 := pb (a := bx - ax) (b := y - ay) (by omega) (by omega)
            have p2 := pb (a := x - ax) (b := bz - ay) (by omega) (by omega)
            rw [w64_id (n := bx - ax) (by omega) (by omega), w64_id (n := y - ay) (by omega) (by omega), w64_id (n := x - ax) (by omega) (by omega), w64_id (n := bz - ay) (by omega) (by omega), w64_id (n := (bx - ax) * (y - ay)) (by omega) (by omega), w64_id (n := (x - ax) * (bz - ay)) (by omega) (by omega)]
            by_cases c3 : (bx - ax) * (y - ay) > (x - ax) * (bz - ay)
            · rw [decide_eq_true c3, no]; exact none_ _ (hN (fun z => by have := (hH.mp z).2.2; omega))
            · rw [decide_eq_false c3, hY (hH.mpr ⟨by omega, by omega, by omega⟩), sweep_Wound.j1, if_neg (by simp), w64_id (n := (i : Int) + 1) (by omega) (by omega), show (i : Int) + 1 = ((i + 1 : Nat) : Int) by omega]
              unfold ind
              by_cases c4 : g = st
              · rw [if_pos c4, if_pos c4]
                by_cases c5 : t = st
                · rw [if_pos c5, if_pos c5, w64_id (n := acc + 1) (by omega) (by omega), w64_id (n := acc + 1 - 1) (by omega) (by omega), show acc + 1 - 1 = acc + (1 - 1) by omega]
                · rw [if_neg c5, if_neg c5, w64_id (n := acc + 1) (by omega) (by omega), show acc + 1 = acc + (1 - 0) by omega]
              · rw [if_neg c4, if_neg c4]
                by_cases c5 : t = st
                · rw [if_pos c5, if_pos c5, w64_id (n := acc - 1) (by omega) (by omega), show acc - 1 = acc + (0 - 1) by omega]
                · rw [if_neg c5, if_neg c5, show acc + (0 - 0) = acc by omega]
      · rw [if_neg (by simpa using hy), no]; exact none_ _ (if_neg (fun g => hy g.2))
    · rw [if_neg (by simpa using hx), no]; exact none_ _ (if_neg (fun g => hx g.1))
  · rw [if_neg (by simpa using h), no]
    have hz : cwS st x y l[i] = 0 := by unfold cwS; rw [if_neg (fun g => h g.1)]
    refine none_ _ ?_
    rw [hz]; split <;> rfl
theorem wound_l0 {l : List Sg} (hl : l.length ≤ 1000) (st x y : Int) : ∀ (d i k : Nat) (acc : Int), d + i = l.length → -(i : Int) ≤ acc ∧ acc ≤ i → 2 * d < k →
    sweep_Wound.l0 k st x y acc l (l.length : Int) (i : Int) = some (acc + if oddP x ∧ oddP y then wS (l.drop i) st x y else 0) := by
  intro d
  induction d with
  | zero =>
    intro i k acc h ha hk
    obtain ⟨k, rfl⟩ : ∃ m, k = m + 1 := ⟨k - 1, by omega⟩
    rw [sweep_Wound.l0, if_neg (by omega), List.drop_of_length_le (by omega), wS_nil]; simp
  | succ d ih =>
    intro i k acc h ha hk
    obtain ⟨k, rfl⟩ : ∃ m, k = m + 2 := ⟨k - 2, by omega⟩
    have hi : i < l.length := by omega
    have hc := cwS_bd st x y l[i]
    rw [wound_round hl st x y i hi acc ha k, ih (i + 1) k _ (by omega) (by split <;> omega) (by omega), drop_sg l i hi, wS_cons]
    by_cases g : oddP x ∧ oddP y
    · rw [if_pos g, if_pos g, if_pos g, Int.add_assoc]
    · rw [if_neg g, if_neg g, if_neg g, Int.add_zero]
theorem wound_eq {l : List Sg} (hl : l.length ≤ 1000) (st x y : Int) (k : Nat) (hk : 2001 ≤ k) : sweep_Wound.f k l st x y = some (if oddP x ∧ oddP y then wS l st x y else 0) := by
  unfold sweep_Wound.f
  have := wound_l0 hl st x y l.length 0 k 0 (by omega) (by omega) (by omega)
  rw [List.drop_zero, Int.zero_add] at this
  exact this
/-- A segment as the document's. -/
def toRS (s : Sg) : S30 := ⟨⟨s.f0.f0, s.f0.f1⟩, ⟨s.f1.f0, s.f1.f1⟩, s.f2, s.f3⟩
theorem rdrs (l : List Sg) (i : Nat) (h : i < l.length) : rd_T30 (l.map toRS) (i : Int) = toRS l[i] := by
  unfold rd_T30; rw [Int.toNat_natCast]; simp [List.getD_eq_getElem?_getD, h]
theorem segR_eq (s : Sg) (k : Nat) (hk : 10 ≤ k) : celluloidref17_Right.f k s.f0.f0 s.f0.f1 s.f1.f0 s.f1.f1 s.f2 s.f3 = some (decide (segR s)) := by
  unfold celluloidref17_Right.f
  rw [evenR_eq _ _ k hk, evenR_eq _ _ k hk, Option.bind_some, Option.bind_some]
  unfold segR
  by_cases h1 : EvP s.f0.f0 s.f0.f1
  · rw [if_pos (decide_eq_true h1)]
    by_cases h2 : EvP s.f1.f0 s.f1.f1
    · rw [if_pos (decide_eq_true h2)]
      by_cases h3 : s.f2 ≥ 0
      · rw [if_pos h3]
        by_cases h4 : s.f2 < 256
        · rw [if_pos h4]
          by_cases h5 : s.f3 ≥ 0
          · rw [if_pos h5]; congr 1; exact decide_eq_decide.mpr ⟨fun h => ⟨h1, h2, ⟨h3, h4⟩, h5, h⟩, fun h => h.2.2.2.2⟩
          · rw [if_neg h5]; congr 1; symm; apply decide_eq_false; intro h; exact h5 h.2.2.2.1
        · rw [if_neg h4]; congr 1; symm; apply decide_eq_false; intro h; exact h4 h.2.2.1.2
      · rw [if_neg h3]; congr 1; symm; apply decide_eq_false; intro h; exact h3 h.2.2.1.1
    · rw [if_neg (by simpa using h2)]; congr 1; symm; apply decide_eq_false; intro h; exact h2 h.2.1
  · rw [if_neg (by simpa using h1)]; congr 1; symm; apply decide_eq_false; intro h; exact h1 h.1
/-- Which way a segment that is hit goes. -/
def sdS (s : Sg) (x y : Int) : Int := if hit s x y then (if s.f0.f1 ≤ s.f1.f1 then 1 else -1) else 0
theorem cross_iff (ax ay bx bz x y : Int) : ax * (bz - ay) + (bx - ax) * (y - ay) ≤ x * (bz - ay) ↔ (bx - ax) * (y - ay) ≤ (x - ax) * (bz - ay) := by
  rw [Int.sub_mul x ax]; omega
theorem side_eq {s : Sg} (h : segR s) {x y : Int} (hx : oddP x) (hy : oddP y) (k : Nat) (hk : 2 ≤ k) : celluloidref17_Side.f k s.f0.f0 s.f0.f1 s.f1.f0 s.f1.f1 s.f2 s.f3 x y = some (sdS s x y) := by
  obtain ⟨k, rfl⟩ : ∃ m, k = m + 2 := ⟨k - 2, by omega⟩
  obtain ⟨h1, h2, _, _⟩ := h
  unfold EvP at h1 h2
  unfold oddP at hx hy
  unfold celluloidref17_Side.f
  have hD : s.f0.f1 ≤ s.f1.f1 → sdS s x y = if s.f0.f1 ≤ y ∧ y ≤ s.f1.f1 ∧ (s.f1.f0 - s.f0.f0) * (y - s.f0.f1) ≤ (x - s.f0.f0) * (s.f1.f1 - s.f0.f1) then 1 else 0 := by
    intro c
    unfold sdS
    rw [if_pos c]
    have e : hit s x y ↔ s.f0.f1 ≤ y ∧ y ≤ s.f1.f1 ∧ (s.f1.f0 - s.f0.f0) * (y - s.f0.f1) ≤ (x - s.f0.f0) * (s.f1.f1 - s.f0.f1) := by unfold hit hitV dnS; rw [if_pos c]
    by_cases g : hit s x y
    · rw [if_pos g, if_pos (e.mp g)]
    · rw [if_neg g, if_neg (fun z => g (e.mpr z))]
  have hU : ¬ s.f0.f1 ≤ s.f1.f1 → sdS s x y = if s.f1.f1 ≤ y ∧ y ≤ s.f0.f1 ∧ (s.f0.f0 - s.f1.f0) * (y - s.f1.f1) ≤ (x - s.f1.f0) * (s.f0.f1 - s.f1.f1) then -1 else 0 := by
    intro c
    unfold sdS
    rw [if_neg c]
    have e : hit s x y ↔ s.f1.f1 ≤ y ∧ y ≤ s.f0.f1 ∧ (s.f0.f0 - s.f1.f0) * (y - s.f1.f1) ≤ (x - s.f1.f0) * (s.f0.f1 - s.f1.f1) := by unfold hit hitV dnS; rw [if_neg c]
    by_cases g : hit s x y
    · rw [if_pos g, if_pos (e.mp g)]
    · rw [if_neg g, if_neg (fun z => g (e.mpr z))]
  generalize sdS s x y = sd at *
  generalize s.f0.f0 = ax at *
  generalize s.f0.f1 = ay at *
  generalize s.f1.f0 = bx at *
  generalize s.f1.f1 = bz at *
  have p1 := pb (a := bx - ax) (b := y - ay) (by omega) (by omega)
  have p2 := pb (a := x) (b := bz - ay) (by omega) (by omega)
  have p3 := pb (a := ax) (b := bz - ay) (by omega) (by omega)
  have p4 := pb (a := ax - bx) (b := y - bz) (by omega) (by omega)
  have p5 := pb (a := x) (b := ay - bz) (by omega) (by omega)
  have p6 := pb (a := bx) (b := ay - bz) (by omega) (by omega)
  have e1 : wrap64 (wrap64 (ax * wrap64 (bz - ay)) + wrap64 (wrap64 (bx - ax) * wrap64 (y - ay))) = ax * (bz - ay) + (bx - ax) * (y - ay) := by
    rw [w64_id (n := bz - ay) (by omega) (by omega), w64_id (n := bx - ax) (by omega) (by omega), w64_id (n := y - ay) (by omega) (by omega), w64_id (n := ax * (bz - ay)) (by omega) (by omega), w64_id (n := (bx - ax) * (y - ay)) (by omega) (by omega), w64_id (by omega) (by omega)]
  have e2 : wrap64 (x * wrap64 (bz - ay)) = x * (bz - ay) := by rw [w64_id (n := bz - ay) (by omega) (by omega), w64_id (by omega) (by omega)]
  have e3 : wrap64 (wrap64 (bx * wrap64 (ay - bz)) + wrap64 (wrap64 (ax - bx) * wrap64 (y - bz))) = bx * (ay - bz) + (ax - bx) * (y - bz) := by
    rw [w64_id (n := ay - bz) (by omega) (by omega), w64_id (n := ax - bx) (by omega) (by omega), w64_id (n := y - bz) (by omega) (by omega), w64_id (n := bx * (ay - bz)) (by omega) (by omega), w64_id (n := (ax - bx) * (y - bz)) (by omega) (by omega), w64_id (by omega) (by omega)]
  have e4 : wrap64 (x * wrap64 (ay - bz)) = x * (ay - bz) := by rw [w64_id (n := ay - bz) (by omega) (by omega), w64_id (by omega) (by omega)]
  have x1 := cross_iff ax ay bx bz x y
  have x2 := cross_iff bx bz ax ay x y
  have j0f : celluloidref17_Side.j0 (k + 2) x y false ax ay bx bz s.f2 s.f3 = some (if bz < y ∧ y < ay then (if (ax - bx) * (y - bz) ≤ (x - bx) * (ay - bz) then -1 else 0) else 0) := by
    rw [celluloidref17_Side.j0, if_neg (by simp)]
    by_cases c1 : bz < y
    · rw [if_pos c1, celluloidref17_Side.j1]
      by_cases c2 : y < ay
      · rw [if_pos (decide_eq_true c2), e3, e4, if_pos (⟨c1, c2⟩ : bz < y ∧ y < ay)]
        by_cases c3 : (ax - bx) * (y - bz) ≤ (x - bx) * (ay - bz)
        · rw [if_pos (x2.mpr c3), if_pos c3]
        · rw [if_neg (fun g => c3 (x2.mp g)), if_neg c3]
      · rw [if_neg (by simpa using c2), if_neg (fun g => c2 g.2)]
    · rw [if_neg c1, celluloidref17_Side.j1, if_neg (by simp), if_neg (fun g => c1 g.1)]
  by_cases c : ay ≤ bz
  · rw [hD c]
    have hno : ¬ (bz < y ∧ y < ay) := by omega
    by_cases c1 : ay < y
    · rw [if_pos c1]
      by_cases c2 : y < bz
      · rw [decide_eq_true c2, celluloidref17_Side.j0, if_pos rfl, e1, e2]
        by_cases c3 : (bx - ax) * (y - ay) ≤ (x - ax) * (bz - ay)
        · rw [if_pos (x1.mpr c3), if_pos ⟨by omega, by omega, c3⟩]
        · rw [if_neg (fun g => c3 (x1.mp g)), if_neg (fun g => c3 g.2.2)]
      · rw [decide_eq_false c2, j0f, if_neg hno, if_neg (by rintro ⟨_, g, _⟩; omega)]
    · rw [if_neg c1, j0f, if_neg hno, if_neg (by rintro ⟨g, _, _⟩; omega)]
  · rw [hU c]
    have e : (if ay < y then celluloidref17_Side.j0 (k + 2) x y (decide (y < bz)) ax ay bx bz s.f2 s.f3 else celluloidref17_Side.j0 (k + 2) x y false ax ay bx bz s.f2 s.f3) = celluloidref17_Side.j0 (k + 2) x y false ax ay bx bz s.f2 s.f3 := by
      by_cases c1 : ay < y
      · rw [if_pos c1, decide_eq_false (by omega)]
      · rw [if_neg c1]
    rw [e, j0f]
    congr 1
    by_cases c1 : bz < y ∧ y < ay
    · rw [if_pos c1]
      by_cases c3 : (ax - bx) * (y - bz) ≤ (x - bx) * (ay - bz)
      · rw [if_pos c3, if_pos ⟨by omega, by omega, c3⟩]
      · rw [if_neg c3, if_neg (fun g => c3 g.2.2)]
    · rw [if_neg c1, if_neg (by rintro ⟨g1, g2, _⟩; apply c1; omega)]
theorem sd_cw {s : Sg} (h : segR s) (st x y : Int) : cwS st x y s = sdS s x y * ind s.f2 st - sdS s x y * ind s.f3 st := by
  unfold cwS sdS
  by_cases c : hit s x y
  · rw [if_pos ⟨h, c⟩, if_pos c]
    unfold gvS tkS dnS
    by_cases d : s.f0.f1 ≤ s.f1.f1
    · rw [if_pos d, if_pos d]; dsimp only; omega
    · rw [if_neg d, if_neg d]; dsimp only; omega
  · rw [if_neg (fun g => c g.2), if_neg c]; omega
theorem sdS_bd (s : Sg) (x y : Int) : -1 ≤ sdS s x y ∧ sdS s x y ≤ 1 := by
  unfold sdS
  split
  · split <;> omega
  · omega
theorem woundR_round {l : List Sg} (hl : l.length ≤ 1000) (st : Int) {x y : Int} (hx : oddP x) (hy : oddP y) (i : Nat) (hi : i < l.length) (acc : Int) (ha : -(i : Int) ≤ acc ∧ acc ≤ i) (k : Nat) (hk : 10 ≤ k) :
    celluloidref17_Wound.l0 (k + 1) (l.map toRS) st x y acc (i : Int) = celluloidref17_Wound.l0 k (l.map toRS) st x y (acc + cwS st x y l[i]) ((i + 1 : Nat) : Int) := by
  rw [celluloidref17_Wound.l0, if_pos (by simp; omega), if_pos (by omega), rdrs l i hi]
  have e1 : celluloidref17_Right.f k (toRS l[i]).f0.f0 (toRS l[i]).f0.f1 (toRS l[i]).f1.f0 (toRS l[i]).f1.f1 (toRS l[i]).f2 (toRS l[i]).f3 = some (decide (segR l[i])) := segR_eq l[i] k hk
  rw [e1, Option.bind_some, w64_id (n := (i : Int) + 1) (by omega) (by omega), show (i : Int) + 1 = ((i + 1 : Nat) : Int) by omega]
  by_cases h : segR l[i]
  · have e2 : celluloidref17_Side.f k (toRS l[i]).f0.f0 (toRS l[i]).f0.f1 (toRS l[i]).f1.f0 (toRS l[i]).f1.f1 (toRS l[i]).f2 (toRS l[i]).f3 x y = some (sdS l[i] x y) := side_eq h hx hy k (by omega)
    have hb := sdS_bd l[i] x y
    rw [if_pos (decide_eq_true h), e2, Option.bind_some, sd_cw h st x y]
    have f2 : (toRS l[i]).f2 = l[i].f2 := rfl
    have f3 : (toRS l[i]).f3 = l[i].f3 := rfl
    rw [f2, f3]
    generalize sdS l[i] x y = z at *
    unfold ind
    by_cases c4 : l[i].f2 = st
    · rw [if_pos c4, if_pos c4]
      by_cases c5 : l[i].f3 = st
      · rw [if_pos c5, if_pos c5, w64_id (n := acc + z) (by omega) (by omega), w64_id (n := acc + z - z) (by omega) (by omega), show acc + z - z = acc + (z * 1 - z * 1) by omega]
      · rw [if_neg c5, if_neg c5, w64_id (n := acc + z) (by omega) (by omega), show acc + z = acc + (z * 1 - z * 0) by omega]
    · rw [if_neg c4, if_neg c4]
      by_cases c5 : l[i].f3 = st
      · rw [if_pos c5, if_pos c5, w64_id (n := acc - z) (by omega) (by omega), show acc - z = acc + (z * 0 - z * 1) by omega]
      · rw [if_neg c5, if_neg c5, show acc + (z * 0 - z * 0) = acc by omega]
  · rw [if_neg (by simpa using h)]
    have : cwS st x y l[i] = 0 := by unfold cwS; rw [if_neg (fun g => h g.1)]
    rw [this, Int.add_zero]
theorem woundR_l0 {l : List Sg} (hl : l.length ≤ 1000) (st : Int) {x y : Int} (hx : oddP x) (hy : oddP y) : ∀ (d i k : Nat) (acc : Int), d + i = l.length → -(i : Int) ≤ acc ∧ acc ≤ i → d + 11 ≤ k →
    celluloidref17_Wound.l0 k (l.map toRS) st x y acc (i : Int) = some (acc + wS (l.drop i) st x y) := by
  intro d
  induction d with
  | zero =>
    intro i k acc h ha hk
    obtain ⟨k, rfl⟩ : ∃ m, k = m + 1 := ⟨k - 1, by omega⟩
    rw [celluloidref17_Wound.l0, if_neg (by simp; omega), List.drop_of_length_le (by omega), wS_nil]; simp
  | succ d ih =>
    intro i k acc h ha hk
    obtain ⟨k, rfl⟩ : ∃ m, k = m + 1 := ⟨k - 1, by omega⟩
    have hi : i < l.length := by omega
    have hc := cwS_bd st x y l[i]
    rw [woundR_round hl st hx hy i hi acc ha k (by omega), ih (i + 1) k _ (by omega) (by omega) (by omega), drop_sg l i hi, wS_cons, Int.add_assoc]
theorem woundR_eq {l : List Sg} (hl : l.length ≤ 1000) (st : Int) {x y : Int} (hx : oddP x) (hy : oddP y) (k : Nat) (hk : 1011 ≤ k) : celluloidref17_Wound.f k (l.map toRS) st x y = some (wS l st x y) := by
  unfold celluloidref17_Wound.f
  have := woundR_l0 hl st hx hy l.length 0 k 0 (by omega) (by omega) (by omega)
  rw [List.drop_zero, Int.zero_add] at this
  exact this
theorem refs_l0 {l : List Sg} (hl : l.length ≤ 1000) : ∀ (d i k : Nat), d + i = l.length → d < k → celluloidlaw17_refs.l0 k ((l.take i).map toRS) l (l.length : Int) (i : Int) = some (l.map toRS) := by
  intro d
  induction d with
  | zero =>
    intro i k h hk
    obtain ⟨k, rfl⟩ : ∃ m, k = m + 1 := ⟨k - 1, by omega⟩
    rw [celluloidlaw17_refs.l0, if_neg (by omega), List.take_of_length_le (by omega)]
  | succ d ih =>
    intro i k h hk
    obtain ⟨k, rfl⟩ : ∃ m, k = m + 1 := ⟨k - 1, by omega⟩
    have hi : i < l.length := by omega
    rw [celluloidlaw17_refs.l0, if_pos (by omega), if_pos (by omega), if_pos (by omega), if_pos (by simp; omega), rds l i hi, w64_id (n := (i : Int) + 1) (by omega) (by omega), show (i : Int) + 1 = ((i + 1 : Nat) : Int) by omega]
    have e1 : (l.take i).map toRS ++ [⟨⟨l[i].f0.f0, l[i].f0.f1⟩, ⟨l[i].f1.f0, l[i].f1.f1⟩, l[i].f2, l[i].f3⟩] = (l.take (i + 1)).map toRS := by
      rw [List.take_succ_eq_append_getElem hi, List.map_append]; rfl
    rw [e1]
    exact ih (i + 1) k (by omega) (by omega)
theorem refs_eq {l : List Sg} (hl : l.length ≤ 1000) (k : Nat) (hk : 1001 ≤ k) : celluloidlaw17_refs.f k l = some (l.map toRS) := by
  unfold celluloidlaw17_refs.f
  have := refs_l0 hl l.length 0 k (by omega) (by omega)
  rw [List.take_zero] at this
  exact this
end Go.Proofs.Ytgmegmhioiljcaa.P
namespace Go.Proofs.Ytgmegmhioiljcaa.P
open Go.RowKit Go.Proofs.YtgmegmhioiljcaaW.PrintWords Go.Proofs.YtgmegmhioiljcaaW.PrintLast Go.Proofs.YtgmegmhioiljcaaW.PrintMore
theorem awake_at : celluloidlaw17_awake.f 300 = some true := by kernel_rfl
theorem awake_eq (k : Nat) (hk : 300 ≤ k) : celluloidlaw17_awake.f k = some true := at_rounds celluloidlaw17_awake.mono hk awake_at
end Go.Proofs.Ytgmegmhioiljcaa.P
namespace Go.Proofs.Ytgmegmhioiljcaa.Pure
open Go.RowKit Go.Proofs.Ytgmegmhioiljcaa.P Go.Proofs.YtgmegmhioiljcaaW.PrintWords Go.Proofs.YtgmegmhioiljcaaW.PrintLast Go.Proofs.YtgmegmhioiljcaaW.PrintMore
theorem winds_l0 {l : List Sg} (hl : l.length ≤ 1000) (st x y : Int) (fin : ∀ k, 3000 ≤ k → (if oddP x then (celluloidlaw17_SweepWinds.j1 k l st x y 0 (decide (oddP y))) else celluloidlaw17_SweepWinds.j1 k l st x y 0 false) = some true) :
    ∀ (d i k : Nat), d + i = l.length → d + 3001 ≤ k → celluloidlaw17_SweepWinds.l0 k l st x y l (l.length : Int) (i : Int) = some true := by
  intro d
  induction d with
  | zero =>
    intro i k h hk
    obtain ⟨k, rfl⟩ : ∃ m, k = m + 1 := ⟨k - 1, by omega⟩
    rw [celluloidlaw17_SweepWinds.l0, if_neg (by omega), odd_eq, Option.bind_some, odd_eq, Option.bind_some]
    have := fin k (by omega)
    by_cases g : oddP x
    · rw [if_pos g] at this; rw [if_pos (decide_eq_true g)]; exact this
    · rw [if_neg g] at this; rw [if_neg (by simpa using g)]; exact this
  | succ d ih =>
    intro i k h hk
    obtain ⟨k, rfl⟩ : ∃ m, k = m + 1 := ⟨k - 1, by omega⟩
    have hi : i < l.length := by omega
    rw [celluloidlaw17_SweepWinds.l0, if_pos (by omega), if_pos (by omega), if_pos (by omega), rds l i hi, seg_eq, Option.bind_some, segR_eq l[i] k (by omega), Option.bind_some, if_neg (by simp), w64_id (n := (i : Int) + 1) (by omega) (by omega), show (i : Int) + 1 = ((i + 1 : Nat) : Int) by omega]
    exact ih (i + 1) k (by omega) (by omega)
theorem SweepWinds : celluloidlaw17_SweepWinds.Pure := by
  intro l st x y _ _ _ _
  obtain ⟨k, hk⟩ : ∃ k : Nat, k = 5000 := ⟨_, rfl⟩
  refine ⟨k, ?_⟩
  unfold celluloidlaw17_SweepWinds.f
  by_cases g0 : (l.length : Int) > 300
  · rw [if_pos g0, awake_eq k (by omega)]; rfl
  · rw [if_neg g0]
    refine winds_l0 (by omega) st x y ?_ l.length 0 k (by omega) (by omega)
    intro k hk
    obtain ⟨k, rfl⟩ : ∃ m, k = m + 1 := ⟨k - 1, by omega⟩
    have no : ¬ (oddP x ∧ oddP y) → celluloidlaw17_SweepWinds.j1 (k + 1) l st x y 0 false = some true := by
      intro h
      rw [celluloidlaw17_SweepWinds.j1, if_neg (by simp), wound_eq (by omega) st x y k (by omega), Option.bind_some, if_neg h, if_pos rfl, awake_eq k (by omega)]; rfl
    by_cases gx : oddP x
    · rw [if_pos gx]
      by_cases gy : oddP y
      · rw [decide_eq_true gy, celluloidlaw17_SweepWinds.j1, if_pos rfl, refs_eq (by omega) k (by omega), Option.bind_some, woundR_eq (by omega) st gx gy k (by omega), Option.bind_some, wound_eq (by omega) st x y k (by omega), Option.bind_some, if_pos (⟨gx, gy⟩ : oddP x ∧ oddP y), if_pos rfl, awake_eq k (by omega)]; rfl
      · rw [decide_eq_false gy]; exact no (fun h => gy h.2)
    · rw [if_neg gx]; exact no (fun h => gx h.1)
end Go.Proofs.Ytgmegmhioiljcaa.Pure
