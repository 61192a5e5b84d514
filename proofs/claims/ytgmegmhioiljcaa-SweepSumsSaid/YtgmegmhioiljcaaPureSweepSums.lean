/- Over all styles, 0 among them, a sample is wound 0 times in all. (prune.py) -/
import Derived.Test.YtgmegmhioiljcaaPx0
import Derived.Test.YtgmegmhioiljcaaPx1
import Derived.Test.YtgmegmhioiljcaaPx2
import Derived.Test.YtgmegmhioiljcaaPx6
import Derived.Test.YtgmegmhioiljcaaPx14
import Derived.KernelRfl
import Derived.Laws.BitsAllLaws
import Derived.Laws.MathBits
import Derived.Lib.BitFns
import Derived.Test.YtgmegmhioiljcaaSaySweepSums
namespace Go.Proofs.Ytgmegmhioiljcaa.P
open Go.RowKit Go.Proofs.YtgmegmhioiljcaaW.PrintWords Go.Proofs.YtgmegmhioiljcaaW.PrintLast Go.Proofs.YtgmegmhioiljcaaW.PrintMore
theorem w64_id {n : Int} (h0 : -9223372036854775808 ≤ n) (h1 : n < 9223372036854775808) : wrap64 n = n := by unfold wrap64; omega
structure Digit (u v v1 v0 u1 Q : Int) : Prop where
  hv : v = v1 * 4294967296 + v0
  v0a : 0 ≤ v0
  v0b : v0 < 4294967296
  v1a : 2147483648 ≤ v1
  v1b : v1 < 4294967296
  ua : 0 ≤ u
  ub : u < v
  u1a : 0 ≤ u1
  u1b : u1 < 4294967296
  qa : Q * v ≤ u * 4294967296 + u1
  qb : u * 4294967296 + u1 < Q * v + v
theorem lt_of_mul {a b v : Int} (hv : 0 < v) (h : a * v < b * v) : a < b := by
  rcases Int.lt_or_le a b with h1 | h1
  · exact h1
  · have := Int.mul_le_mul_of_nonneg_right h1 (Int.le_of_lt hv); omega
namespace Digit
variable {u v v1 v0 u1 Q : Int}
theorem vpos (d : Digit u v v1 v0 u1 Q) : 0 < v := by have := d.hv; have := d.v1a; have := d.v0a; omega
theorem q0 (d : Digit u v v1 v0 u1 Q) : 0 ≤ Q := by
  have h := d.qb; have := d.ua; have := d.u1a; have hv := d.vpos
  have : -1 < Q := lt_of_mul hv (by have : (Q + 1) * v = Q * v + v := by rw [Int.add_mul, Int.one_mul]
                                    omega)
  omega
theorem above (d : Digit u v v1 v0 u1 Q) {q : Int} (h : q * v ≤ u * 4294967296 + u1) : q ≤ Q := by
  have : q < Q + 1 := lt_of_mul d.vpos (by have := d.qb; rw [Int.add_mul, Int.one_mul]; omega)
  omega
theorem prod (d : Digit u v v1 v0 u1 Q) {q r : Int} (h : q * v1 + r = u) : q * v = (u - r) * 4294967296 + q * v0 := by
  rw [d.hv, Int.mul_add, ← Int.mul_assoc, show q * v1 = u - r by omega]
/-- It says no: the guess is right. -/
theorem no (d : Digit u v v1 v0 u1 Q) {q r : Int} (h : q * v1 + r = u) (hq : Q ≤ q) (ht : q * v0 ≤ 4294967296 * r + u1) : q = Q := by
  have := d.above (q := q) (by rw [d.prod h]; omega); omega
/-- What is left over is great: the guess is right. -/
theorem out (d : Digit u v v1 v0 u1 Q) {q r : Int} (h : q * v1 + r = u) (hq : Q ≤ q) (hB : q ≤ 4294967296) (hr : 4294967296 ≤ r) : q = Q := by
  refine d.no h hq ?_
  have h0 := d.q0
  have h1 : q * v0 ≤ 4294967296 * v0 := Int.mul_le_mul_of_nonneg_right hB d.v0a
  have := d.v0b; have := d.u1a; omega
end Digit
/-- A digit, out of the division itself. -/
theorem Digit.of {u v v1 v0 u1 : Int} (hv : v = v1 * 4294967296 + v0) (v0a : 0 ≤ v0) (v0b : v0 < 4294967296) (v1a : 2147483648 ≤ v1) (v1b : v1 < 4294967296) (ua : 0 ≤ u) (ub : u < v) (u1a : 0 ≤ u1) (u1b : u1 < 4294967296) :
    Digit u v v1 v0 u1 ((u * 4294967296 + u1) / v) := by
  have h := Int.mul_ediv_add_emod (u * 4294967296 + u1) v
  have hm := Int.emod_nonneg (u * 4294967296 + u1) (show v ≠ 0 by omega)
  have hl := Int.emod_lt_of_pos (u * 4294967296 + u1) (show 0 < v by omega)
  rw [Int.mul_comm] at h
  exact ⟨hv, v0a, v0b, v1a, v1b, ua, ub, u1a, u1b, by omega, by omega⟩
end Go.Proofs.Ytgmegmhioiljcaa.P
namespace Go.Proofs.Ytgmegmhioiljcaa.P
open Go.RowKit Go.Proofs.YtgmegmhioiljcaaW.PrintWords Go.Proofs.YtgmegmhioiljcaaW.PrintLast Go.Proofs.YtgmegmhioiljcaaW.PrintMore
theorem and_low (n : Int) (m : Nat) (hm : m ≤ 62) (c : Int) (hc : c = ((2 ^ m - 1 : Nat) : Int)) : Go.bits .and .i64 n c = n % ((2 ^ m : Nat) : Int) := by
  subst hc
  have hp := Nat.two_pow_pos m
  have hp2 : 2 ^ m ≤ 2 ^ 62 := Nat.pow_le_pow_right (by omega) hm
  have h1 : (BitVec.ofInt 64 ((2 ^ m - 1 : Nat) : Int)).toNat = 2 ^ m - 1 := by
    rw [BitVec.toNat_ofInt]
    generalize 2 ^ m = p at *
    have : (2 : Nat) ^ 64 = 18446744073709551616 := by decide
    rw [this]; omega
  have key : (BitVec.ofInt 64 n &&& BitVec.ofInt 64 ((2 ^ m - 1 : Nat) : Int)).toNat = (n % ((2 ^ 64 : Nat) : Int)).toNat % 2 ^ m := by
    rw [BitVec.toNat_and, BitVec.toNat_ofInt, h1, Nat.and_two_pow_sub_one_eq_mod]
  show IntKind.i64.wrap ((BitVec.ofInt 64 n &&& BitVec.ofInt 64 ((2 ^ m - 1 : Nat) : Int)).toNat : Nat) = n % ((2 ^ m : Nat) : Int)
  rw [key, IntKind.wrap_i64]
  have hdvd : ((2 ^ m : Nat) : Int) ∣ ((2 ^ 64 : Nat) : Int) := by
    rw [Int.natCast_dvd_natCast]; exact Nat.pow_dvd_pow 2 (by omega)
  have e : (((n % ((2 ^ 64 : Nat) : Int)).toNat % 2 ^ m : Nat) : Int) = n % ((2 ^ m : Nat) : Int) := by
    rw [Int.natCast_emod, Int.toNat_of_nonneg (Int.emod_nonneg _ (by decide)), Int.emod_emod_of_dvd _ hdvd]
  rw [e]
  have h0 := Int.emod_nonneg n (show ((2 ^ m : Nat) : Int) ≠ 0 by omega)
  have h2 := Int.emod_lt_of_pos n (show 0 < ((2 ^ m : Nat) : Int) by omega)
  have h62 : (2 : Nat) ^ 62 = 4611686018427387904 := by decide
  generalize n % ((2 ^ m : Nat) : Int) = z at *
  generalize 2 ^ m = p at *
  omega
theorem and1 (n : Int) : Go.bits .and .i64 n 1 = n % 2 := and_low n 1 (by omega) 1 (by decide)
/-- May a point be a curve's? -/
def EvP (x y : Int) : Prop := x % 2 = 0 ∧ y % 2 = 0 ∧ -16777216 ≤ x ∧ x ≤ 16777216 ∧ -16777216 ≤ y ∧ y ≤ 16777216
instance (x y : Int) : Decidable (EvP x y) := by unfold EvP; infer_instance
theorem even_eq (x y : Int) : curve_Even.f x y = some (decide (EvP x y)) := by
  unfold curve_Even.f
  rw [and1, and1]
  by_cases h1 : x % 2 = 0
  · rw [if_pos h1]
    by_cases h2 : y % 2 = 0
    · rw [if_pos h2]
      by_cases h3 : mx x y ≤ 16777216
      · rw [if_pos h3]; congr 1; apply decide_eq_decide.mpr; unfold EvP; unfold mx at h3; unfold mn; omega
      · rw [if_neg h3]; congr 1; symm; apply decide_eq_false; unfold EvP; unfold mx at h3; omega
    · rw [if_neg h2]; congr 1; symm; apply decide_eq_false; unfold EvP; omega
  · rw [if_neg h1]; congr 1; symm; apply decide_eq_false; unfold EvP; omega
/-- Numbers whose product fits. -/
theorem pb {a b : Int} (ha : -33554432 ≤ a ∧ a ≤ 33554432) (hb : -33554432 ≤ b ∧ b ≤ 33554432) : -1125899906842624 ≤ a * b ∧ a * b ≤ 1125899906842624 := by
  have h1 := Int.mul_nonneg (a := 33554432 - a) (b := 33554432 - b) (by omega) (by omega)
  have h2 := Int.mul_nonneg (a := 33554432 + a) (b := 33554432 + b) (by omega) (by omega)
  have h3 := Int.mul_nonneg (a := 33554432 - a) (b := 33554432 + b) (by omega) (by omega)
  have h4 := Int.mul_nonneg (a := 33554432 + a) (b := 33554432 - b) (by omega) (by omega)
  have e1 : (33554432 - a) * (33554432 - b) = 1125899906842624 - 33554432 * a - 33554432 * b + a * b := by grind
  have e2 : (33554432 + a) * (33554432 + b) = 1125899906842624 + 33554432 * a + 33554432 * b + a * b := by grind
  have e3 : (33554432 - a) * (33554432 + b) = 1125899906842624 - 33554432 * a + 33554432 * b - a * b := by grind
  have e4 : (33554432 + a) * (33554432 - b) = 1125899906842624 + 33554432 * a - 33554432 * b - a * b := by grind
  omega
/-- A segment. -/
abbrev Sg := S27
def segR (s : Sg) : Prop := EvP s.f0.f0 s.f0.f1 ∧ EvP s.f1.f0 s.f1.f1 ∧ (0 ≤ s.f2 ∧ s.f2 < 256) ∧ 0 ≤ s.f3 ∧ s.f3 < 256
instance (s : Sg) : Decidable (segR s) := by unfold segR; infer_instance
/-- May a sample be at a part? -/
def oddP (n : Int) : Prop := n % 2 = 1 ∧ -16777216 ≤ n ∧ n ≤ 16777216
instance (n : Int) : Decidable (oddP n) := by unfold oddP; infer_instance
/-- Does a segment that goes down from a to b cross a sample's row, left of the sample? -/
def hitV (ax ay bx bz x y : Int) : Prop := ay ≤ y ∧ y ≤ bz ∧ (bx - ax) * (y - ay) ≤ (x - ax) * (bz - ay)
instance (ax ay bx bz x y : Int) : Decidable (hitV ax ay bx bz x y) := by unfold hitV; infer_instance
def dnS (s : Sg) : Int × Int × Int × Int × Int × Int := if s.f0.f1 ≤ s.f1.f1 then (s.f0.f0, s.f0.f1, s.f1.f0, s.f1.f1, s.f2, s.f3) else (s.f1.f0, s.f1.f1, s.f0.f0, s.f0.f1, s.f3, s.f2)
def hit (s : Sg) (x y : Int) : Prop := hitV (dnS s).1 (dnS s).2.1 (dnS s).2.2.1 (dnS s).2.2.2.1 x y
instance (s : Sg) (x y : Int) : Decidable (hit s x y) := by unfold hit; infer_instance
def gvS (s : Sg) : Int := (dnS s).2.2.2.2.1
def tkS (s : Sg) : Int := (dnS s).2.2.2.2.2
def ind (a b : Int) : Int := if a = b then 1 else 0
/-- What a segment winds a sample by a style. -/
def cwS (st x y : Int) (s : Sg) : Int := if segR s ∧ hit s x y then ind (gvS s) st - ind (tkS s) st else 0
/-- .. and all of them. -/
def wS (l : List Sg) (st x y : Int) : Int := (l.map (cwS st x y)).sum
theorem wS_nil (st x y : Int) : wS [] st x y = 0 := rfl
theorem wS_cons (s : Sg) (l : List Sg) (st x y : Int) : wS (s :: l) st x y = cwS st x y s + wS l st x y := by unfold wS; simp
theorem ind_bd (a b : Int) : 0 ≤ ind a b ∧ ind a b ≤ 1 := by unfold ind; split <;> omega
theorem cwS_bd (st x y : Int) (s : Sg) : -1 ≤ cwS st x y s ∧ cwS st x y s ≤ 1 := by
  unfold cwS
  split
  · have := ind_bd (gvS s) st; have := ind_bd (tkS s) st; omega
  · omega
theorem wS_bd (l : List Sg) (st x y : Int) : -(l.length : Int) ≤ wS l st x y ∧ wS l st x y ≤ l.length := by
  induction l with
  | nil => rw [wS_nil]; simp
  | cons s l ih => rw [wS_cons, List.length_cons]; have := cwS_bd st x y s; omega
theorem rds (l : List Sg) (i : Nat) (h : i < l.length) : rd_T27 l (i : Int) = l[i] := by
  unfold rd_T27; rw [Int.toNat_natCast]; simp [List.getD_eq_getElem?_getD, h]
theorem drop_sg (l : List Sg) (i : Nat) (h : i < l.length) : l.drop i = l[i] :: l.drop (i + 1) := List.drop_eq_getElem_cons h
theorem seg_eq (s : Sg) : sweep_RightSeg.f s.f0.f0 s.f0.f1 s.f1.f0 s.f1.f1 s.f2 s.f3 = some (decide (segR s)) := by
  unfold sweep_RightSeg.f
  rw [even_eq, even_eq, Option.bind_some, Option.bind_some]
  unfold segR
  by_cases h1 : EvP s.f0.f0 s.f0.f1
  · rw [if_pos (decide_eq_true h1)]
    by_cases h2 : EvP s.f1.f0 s.f1.f1
    · rw [if_pos (decide_eq_true h2)]
      by_cases h3 : mn s.f2 s.f3 ≥ 0
      · rw [if_pos h3]; congr 1
        unfold mn at h3
        exact decide_eq_decide.mpr ⟨fun h => by unfold mx at h; exact ⟨h1, h2, by omega⟩, fun h => by have := h.2.2; unfold mx; omega⟩
      · rw [if_neg h3]; congr 1; symm; apply decide_eq_false; intro h; apply h3; have := h.2.2; unfold mn; omega
    · rw [if_neg (by simpa using h2)]; congr 1; symm; apply decide_eq_false; intro h; exact h2 h.2.1
  · rw [if_neg (by simpa using h1)]; congr 1; symm; apply decide_eq_false; intro h; exact h1 h.1
theorem down_eq (s : Sg) : sweep_down.f s.f0.f0 s.f0.f1 s.f1.f0 s.f1.f1 s.f2 s.f3 = some (dnS s) := by
  unfold sweep_down.f dnS
  by_cases h : s.f0.f1 ≤ s.f1.f1
  · rw [if_pos h, if_pos h]
  · rw [if_neg h, if_neg h]
theorem sample_eq (n : Int) : sweep_sample.f n = some (decide (oddP n)) := by
  unfold sweep_sample.f
  rw [and1]
  unfold oddP
  by_cases h1 : n % 2 = 1
  · rw [if_pos h1]
    by_cases h2 : n ≥ -16777216
    · rw [if_pos h2]; congr 1; exact decide_eq_decide.mpr (by omega)
    · rw [if_neg h2]; congr 1; symm; apply decide_eq_false; omega
  · rw [if_neg h1]; congr 1; symm; apply decide_eq_false; omega
/-- The ends of a right segment that goes down. -/
theorem dn_bd {s : Sg} (h : segR s) : ((dnS s).1 % 2 = 0 ∧ -16777216 ≤ (dnS s).1 ∧ (dnS s).1 ≤ 16777216) ∧ ((dnS s).2.1 % 2 = 0 ∧ -16777216 ≤ (dnS s).2.1 ∧ (dnS s).2.1 ≤ 16777216) ∧ ((dnS s).2.2.1 % 2 = 0 ∧ -16777216 ≤ (dnS s).2.2.1 ∧ (dnS s).2.2.1 ≤ 16777216) ∧ ((dnS s).2.2.2.1 % 2 = 0 ∧ -16777216 ≤ (dnS s).2.2.2.1 ∧ (dnS s).2.2.2.1 ≤ 16777216) ∧ (dnS s).2.1 ≤ (dnS s).2.2.2.1 ∧ (0 ≤ gvS s ∧ gvS s < 256) ∧ 0 ≤ tkS s ∧ tkS s < 256 := by
  obtain ⟨h1, h2, h3, h4⟩ := h
  unfold EvP at h1 h2
  unfold gvS tkS dnS
  by_cases c : s.f0.f1 ≤ s.f1.f1
  · rw [if_pos c]; dsimp only; omega
  · rw [if_neg c]; dsimp only; omega
theorem wound_round {l : List Sg} (hl : l.length ≤ 1000) (st x y : Int) (i : Nat) (hi : i < l.length) (acc : Int) (ha : -(i : Int) ≤ acc ∧ acc ≤ i) (k : Nat) :
    sweep_Wound.l0 (k + 2) st x y acc l (l.length : Int) (i : Int) = sweep_Wound.l0 k st x y (acc + if oddP x ∧ oddP y then cwS st x y l[i] else 0) l (l.length : Int) ((i + 1 : Nat) : Int) := by
  rw [sweep_Wound.l0, if_pos (by omega), if_pos (by omega), if_pos (by omega), rds l i hi, down_eq, Option.bind_some, seg_eq, Option.bind_some, sample_eq, Option.bind_some, sample_eq, Option.bind_some]
  have no : ∀ (g t : Int), sweep_Wound.j1 (k + 1) st x y acc g t l (l.length : Int) (i : Int) true = sweep_Wound.l0 k st x y acc l (l.length : Int) ((i + 1 : Nat) : Int) := by
    intro g t
    rw [sweep_Wound.j1, if_pos rfl, w64_id (by omega) (by omega)]; rfl
  have none_ : ∀ c : Int, c = 0 → sweep_Wound.l0 k st x y acc l (l.length : Int) ((i + 1 : Nat) : Int) = sweep_Wound.l0 k st x y (acc + c) l (l.length : Int) ((i + 1 : Nat) : Int) := by
    rintro c rfl; rw [Int.add_zero]
  by_cases h : segR l[i]
  · rw [if_pos (decide_eq_true h)]
    by_cases hx : oddP x
    · rw [if_pos (decide_eq_true hx)]
      by_cases hy : oddP y
      · rw [if_pos (decide_eq_true hy), if_pos (⟨hx, hy⟩ : oddP x ∧ oddP y)]
        have hb := dn_bd h
        have hx' := hx
        have hy' := hy
        unfold oddP at hx' hy'
        have hH : hit l[i] x y ↔ (dnS l[i]).2.1 ≤ y ∧ y ≤ (dnS l[i]).2.2.2.1 ∧ ((dnS l[i]).2.2.1 - (dnS l[i]).1) * (y - (dnS l[i]).2.1) ≤ (x - (dnS l[i]).1) * ((dnS l[i]).2.2.2.1 - (dnS l[i]).2.1) := Iff.rfl
        have hG : gvS l[i] = (dnS l[i]).2.2.2.2.1 := rfl
        have hT : tkS l[i] = (dnS l[i]).2.2.2.2.2 := rfl
        have hN : ¬ hit l[i] x y → cwS st x y l[i] = 0 := fun g => by unfold cwS; rw [if_neg (fun z => g z.2)]
        have hY : hit l[i] x y → cwS st x y l[i] = ind (gvS l[i]) st - ind (tkS l[i]) st := fun g => by unfold cwS; rw [if_pos ⟨h, g⟩]
        rw [hG, hT] at hY
        generalize cwS st x y l[i] = cw at *
        generalize (dnS l[i]).1 = ax at *
        generalize (dnS l[i]).2.1 = ay at *
        generalize (dnS l[i]).2.2.1 = bx at *
        generalize (dnS l[i]).2.2.2.1 = bz at *
        generalize (dnS l[i]).2.2.2.2.1 = g at *
        generalize (dnS l[i]).2.2.2.2.2 = t at *
        by_cases c1 : y < ay
        · rw [if_pos c1, no]; exact none_ _ (hN (fun z => by have := hH.mp z; omega))
        · rw [if_neg c1]
          by_cases c2 : y > bz
          · rw [if_pos c2, no]; exact none_ _ (hN (fun z => by have := hH.mp z; omega))
          · rw [if_neg c2]
            have p1 := pb (a := bx - ax) (b := y - ay) (by omega) (by omega)
            have p2 := pb (a := x - ax) (b := bz - ay) (by omega) (by omega)
            rw [w64_id (n := bx - ax) (by omega) (by omega), w64_id (n := y - ay) (by omega) (by omega), w64_id (n := x - ax) (by omega) (by omega), w64_id (n := bz - ay) (by omega) (by omega), w64_id (n := (bx - ax) * (y - ay)) (by omega) (by omega), w64_id (n := (x - ax) * (bz - ay)) (by omega) (by omega)]
            by_cases c3 : (bx - ax) * (y - ay) > (x - ax) * (bz - ay)
            · rw [decide_eq_true c3, no]; exact none_ _ (hN (fun z => by have := (hH.mp z).2.2; omega))
            · rw [decide_eq_false c3, hY (hH.mpr ⟨by omega, by omega, by omega⟩), sweep_Wound.j1, if_neg (by simp), w64_id (n := (i : Int) + 1) (by omega) (by omega), show (i : Int) + 1 = ((i + 1 : Nat) : Int) by omega]
              unfold ind
              by_cases c4 : g = st
              · rw [if_pos c4, if_pos c4]
                by_cases c5 : t = st
                · rw [if_pos c5, if_pos c5, w64_id (n := acc + 1) (by omega) (by omega), w64_id (n := acc + 1 - 1) (by omega) (by omega), show acc + 1 - 1 = acc + (1 - 1) by omega]
                · rw [if_neg c5, if_neg c5, w64_id (n := acc + 1) (by omega) (by omega), show acc + 1 = acc + (1 - 0) by omega]
              · rw [if_neg c4, if_neg c4]
                by_cases c5 : t = st
                · rw [if_pos c5, if_pos c5, w64_id (n := acc - 1) (by omega) (by omega), show acc - 1 = acc + (0 - 1) by omega]
                · rw [if_neg c5, if_neg c5, show acc + (0 - 0) = acc by omega]
      · rw [if_neg (by simpa using hy), no]; exact none_ _ (if_neg (fun g => hy g.2))
    · rw [if_neg (by simpa using hx), no]; exact none_ _ (if_neg (fun g => hx g.1))
  · rw [if_neg (by simpa using h), no]
    have hz : cwS st x y l[i] = 0 := by unfold cwS; rw [if_neg (fun g => h g.1)]
    refine none_ _ ?_
    rw [hz]; split <;> rfl
theorem wound_l0 {l : List Sg} (hl : l.length ≤ 1000) (st x y : Int) : ∀ (d i k : Nat) (acc : Int), d + i = l.length → -(i : Int) ≤ acc ∧ acc ≤ i → 2 * d < k →
    sweep_Wound.l0 k st x y acc l (l.length : Int) (i : Int) = some (acc + if oddP x ∧ oddP y then wS (l.drop i) st x y else 0) := by
  intro d
  induction d with
  | zero =>
    intro i k acc h ha hk
    obtain ⟨k, rfl⟩ : ∃ m, k = m + 1 := ⟨k - 1, by omega⟩
    rw [sweep_Wound.l0, if_neg (by omega), List.drop_of_length_le (by omega), wS_nil]; simp
  | succ d ih =>
    intro i k acc h ha hk
    obtain ⟨k, rfl⟩ : ∃ m, k = m + 2 := ⟨k - 2, by omega⟩
    have hi : i < l.length := by omega
    have hc := cwS_bd st x y l[i]
    rw [wound_round hl st x y i hi acc ha k, ih (i + 1) k _ (by omega) (by split <;> omega) (by omega), drop_sg l i hi, wS_cons]
    by_cases g : oddP x ∧ oddP y
    · rw [if_pos g, if_pos g, if_pos g, Int.add_assoc]
    · rw [if_neg g, if_neg g, if_neg g, Int.add_zero]
theorem wound_eq {l : List Sg} (hl : l.length ≤ 1000) (st x y : Int) (k : Nat) (hk : 2001 ≤ k) : sweep_Wound.f k l st x y = some (if oddP x ∧ oddP y then wS l st x y else 0) := by
  unfold sweep_Wound.f
  have := wound_l0 hl st x y l.length 0 k 0 (by omega) (by omega) (by omega)
  rw [List.drop_zero, Int.zero_add] at this
  exact this
end Go.Proofs.Ytgmegmhioiljcaa.P
namespace Go.Proofs.Ytgmegmhioiljcaa.P
open Go.RowKit Go.Proofs.YtgmegmhioiljcaaW.PrintWords Go.Proofs.YtgmegmhioiljcaaW.PrintLast Go.Proofs.YtgmegmhioiljcaaW.PrintMore
theorem awake_at : celluloidlaw17_awake.f 300 = some true := by kernel_rfl
theorem awake_eq (k : Nat) (hk : 300 ≤ k) : celluloidlaw17_awake.f k = some true := at_rounds celluloidlaw17_awake.mono hk awake_at
end Go.Proofs.Ytgmegmhioiljcaa.P
namespace Go.Proofs.Ytgmegmhioiljcaa.Pure
open Go.RowKit Go.Proofs.Ytgmegmhioiljcaa.P Go.Proofs.YtgmegmhioiljcaaW.PrintWords Go.Proofs.YtgmegmhioiljcaaW.PrintLast Go.Proofs.YtgmegmhioiljcaaW.PrintMore
/-- What the styles from 0 on, so many, wind a sample in all. -/
def upS (l : List Sg) (x y : Int) : Nat → Int
  | 0 => 0
  | n + 1 => upS l x y n + wS l (n : Int) x y
theorem ind_up (g : Int) (h0 : 0 ≤ g) : ∀ n : Nat, (∀ f : Nat → Int, f 0 = 0 → (∀ m, f (m + 1) = f m + ind g (m : Int)) → f n = if g < n then 1 else 0) := by
  intro n
  induction n with
  | zero => intro f h _; rw [h, if_neg (by omega)]
  | succ n ih =>
    intro f h1 h2
    rw [h2, ih f h1 h2]
    unfold ind
    by_cases c : g < n
    · rw [if_pos c, if_neg (by omega), if_pos (by omega)]; rfl
    · rw [if_neg c]
      by_cases d : g = n
      · rw [if_pos d, if_pos (by omega)]; rfl
      · rw [if_neg d, if_neg (by omega)]; rfl
def indUp (g : Int) : Nat → Int
  | 0 => 0
  | n + 1 => indUp g n + ind g (n : Int)
theorem indUp_eq {g : Int} (h0 : 0 ≤ g) (n : Nat) : indUp g n = if g < n then 1 else 0 := ind_up g h0 n (indUp g) rfl (fun _ => rfl)
def cwUp (s : Sg) (x y : Int) : Nat → Int
  | 0 => 0
  | n + 1 => cwUp s x y n + cwS (n : Int) x y s
theorem cwUp_eq (s : Sg) (x y : Int) : ∀ n, cwUp s x y n = if segR s ∧ hit s x y then indUp (gvS s) n - indUp (tkS s) n else 0 := by
  intro n
  induction n with
  | zero => unfold cwUp indUp; split <;> rfl
  | succ n ih =>
    unfold cwUp indUp
    rw [ih]
    unfold cwS
    by_cases c : segR s ∧ hit s x y
    · rw [if_pos c, if_pos c, if_pos c]; omega
    · rw [if_neg c, if_neg c, if_neg c]; rfl
theorem cwUp_all (s : Sg) (x y : Int) : cwUp s x y 256 = 0 := by
  rw [cwUp_eq]
  by_cases c : segR s ∧ hit s x y
  · have h := dn_bd c.1
    rw [if_pos c, indUp_eq (by omega), indUp_eq (by omega), if_pos (by omega), if_pos (by omega)]; rfl
  · rw [if_neg c]
theorem upS_nil (x y : Int) : ∀ n, upS [] x y n = 0 := by
  intro n
  induction n with
  | zero => rfl
  | succ n ih => unfold upS; rw [ih, wS_nil]; rfl
theorem upS_cons (s : Sg) (l : List Sg) (x y : Int) : ∀ n, upS (s :: l) x y n = cwUp s x y n + upS l x y n := by
  intro n
  induction n with
  | zero => rfl
  | succ n ih => unfold upS cwUp; rw [ih, wS_cons]; omega
theorem upS_all (l : List Sg) (x y : Int) : upS l x y 256 = 0 := by
  induction l with
  | nil => exact upS_nil x y 256
  | cons s l ih => rw [upS_cons, cwUp_all, ih]; rfl
theorem upS_bd (l : List Sg) (x y : Int) : ∀ n : Nat, -((n : Int) * l.length) ≤ upS l x y n ∧ upS l x y n ≤ (n : Int) * l.length := by
  intro n
  induction n with
  | zero => unfold upS; simp
  | succ n ih =>
    unfold upS
    have := wS_bd l (n : Int) x y
    have e : ((n + 1 : Nat) : Int) * l.length = (n : Int) * l.length + l.length := by rw [Int.natCast_add, Int.add_mul]; simp
    rw [e]; omega
theorem sums_l0 {l : List Sg} (hl : l.length ≤ 300) (x y : Int) (W : Nat → Int) (hW : ∀ n, W n = if oddP x ∧ oddP y then upS l x y n else 0) : ∀ (d i k : Nat), d + i = 256 → d + 3001 ≤ k → celluloidlaw17_SweepSums.l0 k l x y (W i) (i : Int) = some true := by
  intro d
  induction d with
  | zero =>
    intro i k h hk
    obtain ⟨k, rfl⟩ : ∃ m, k = m + 1 := ⟨k - 1, by omega⟩
    have : W i = 0 := by
      rw [hW, show i = 256 by omega, upS_all]; split <;> rfl
    rw [celluloidlaw17_SweepSums.l0, if_neg (by omega), this, if_pos rfl, awake_eq k (by omega)]; rfl
  | succ d ih =>
    intro i k h hk
    obtain ⟨k, rfl⟩ : ∃ m, k = m + 1 := ⟨k - 1, by omega⟩
    have hb := upS_bd l x y i
    have hb2 := wS_bd l (i : Int) x y
    have hm : (i : Int) * l.length ≤ 256 * 300 := Int.mul_le_mul (by omega) (by omega) (by omega) (by omega)
    have e : W i + (if oddP x ∧ oddP y then wS l (i : Int) x y else 0) = W (i + 1) := by
      rw [hW, hW]
      by_cases c : oddP x ∧ oddP y
      · rw [if_pos c, if_pos c, if_pos c]; rfl
      · rw [if_neg c, if_neg c, if_neg c]; rfl
    have hWb : -76800 ≤ W i ∧ W i ≤ 76800 := by rw [hW]; split <;> omega
    rw [celluloidlaw17_SweepSums.l0, if_pos (by omega), wound_eq (by omega) (i : Int) x y k (by omega), Option.bind_some]
    have hc : -300 ≤ (if oddP x ∧ oddP y then wS l (i : Int) x y else 0) ∧ (if oddP x ∧ oddP y then wS l (i : Int) x y else 0) ≤ 300 := by split <;> omega
    rw [w64_id (n := W i + _) (by omega) (by omega), e, w64_id (n := (i : Int) + 1) (by omega) (by omega), show (i : Int) + 1 = ((i + 1 : Nat) : Int) by omega]
    exact ih (i + 1) k (by omega) (by omega)
theorem SweepSums : celluloidlaw17_SweepSums.Pure := by
  intro l x y _ _ _
  obtain ⟨k, hk⟩ : ∃ k : Nat, k = 5000 := ⟨_, rfl⟩
  refine ⟨k, ?_⟩
  unfold celluloidlaw17_SweepSums.f
  by_cases g0 : (l.length : Int) > 300
  · rw [if_pos g0, awake_eq k (by omega)]; rfl
  · rw [if_neg g0]
    have h := sums_l0 (l := l) (by omega) x y (fun n => if oddP x ∧ oddP y then upS l x y n else 0) (fun _ => rfl) 256 0 k (by omega) (by omega)
    have e : (if oddP x ∧ oddP y then upS l x y 0 else 0) = 0 := by split <;> rfl
    simp only [e] at h
    exact h
end Go.Proofs.Ytgmegmhioiljcaa.Pure
