/- The colour of a plain fill hangs neither on the matrix, nor on the point, nor on bitmaps; by a change that turns nothing it is its colour, made faint. (prune.py) -/
import Derived.Test.YtmdfcinjmlagcaaPx0
import Derived.Test.YtmdfcinjmlagcaaPx4
import Derived.Test.YtmdfcinjmlagcaaPx6
import Derived.Test.YtmdfcinjmlagcaaPx8
import Derived.Test.YtmdfcinjmlagcaaPx9
import Derived.Test.YtmdfcinjmlagcaaPx10
import Derived.Test.YtmdfcinjmlagcaaPx11
import Derived.Test.YtmdfcinjmlagcaaPx33
import Derived.Test.YtmdfcinjmlagcaaPx40
import Derived.Laws.BitsAllLaws
import Derived.Laws.MathBits
import Derived.Lib.BitFns
import Derived.Test.YtmdfcinjmlagcaaSayPaintPlain
namespace Go.Proofs.Ytmdfcinjmlagcaa.P
open Go.RowKit Go.Proofs.YtmdfcinjmlagcaaW.PrintWords Go.Proofs.YtmdfcinjmlagcaaW.PrintLast Go.Proofs.YtmdfcinjmlagcaaW.PrintMore
theorem w64_id {n : Int} (h0 : -9223372036854775808 ≤ n) (h1 : n < 9223372036854775808) : wrap64 n = n := by unfold wrap64; omega
/-- Is a colour right? -/
def Col (r g b a : Int) : Prop := (0 ≤ r ∧ r ≤ 255) ∧ (0 ≤ g ∧ g ≤ 255) ∧ (0 ≤ b ∧ b ≤ 255) ∧ (0 ≤ a ∧ a ≤ 255)
instance (r g b a : Int) : Decidable (Col r g b a) := by unfold Col; infer_instance
theorem rd_cons_drop (l : List Int) (i : Nat) (h : i < l.length) : l.drop i = rd l (i : Int) :: l.drop (i + 1) := by
  rw [List.drop_eq_getElem_cons h]
  simp [rd, List.getD_eq_getElem?_getD, h]
theorem within_l0 (f t : Int) (l : List Int) (hl : l.length ≤ 1000) : ∀ (d i k : Nat), d + i = l.length → d < k → field_within.l0 k f t l (l.length : Int) (i : Int) = some (decide (∀ x ∈ l.drop i, f ≤ x ∧ x ≤ t)) := by
  intro d
  induction d with
  | zero =>
    intro i k h hk
    obtain ⟨k, rfl⟩ : ∃ m, k = m + 1 := ⟨k - 1, by omega⟩
    simp only [field_within.l0]
    rw [if_neg (by omega), List.drop_of_length_le (by omega)]; simp
  | succ d ih =>
    intro i k h hk
    obtain ⟨k, rfl⟩ : ∃ m, k = m + 1 := ⟨k - 1, by omega⟩
    simp only [field_within.l0]
    rw [if_pos (by omega), if_pos (by omega), if_pos (by omega), w64_id (by omega) (by omega), show (i : Int) + 1 = ((i + 1 : Nat) : Int) by omega, rd_cons_drop l i (by omega)]
    by_cases h1 : rd l (i : Int) < f
    · rw [if_pos h1, decide_eq_false]; intro hc; have := hc _ (List.mem_cons_self ..); omega
    · rw [if_neg h1]
      by_cases h2 : rd l (i : Int) > t
      · rw [if_pos h2, decide_eq_false]; intro hc; have := hc _ (List.mem_cons_self ..); omega
      · rw [if_neg h2, ih (i + 1) k (by omega) (by omega)]
        congr 1; rw [decide_eq_decide]
        constructor
        · intro hh x hx
          rcases List.mem_cons.mp hx with rfl | hx
          · omega
          · exact hh x hx
        · intro hh x hx; exact hh x (List.mem_cons_of_mem _ hx)
theorem within_eq (f t : Int) (l : List Int) (hl : l.length ≤ 1000) (k : Nat) (hk : 1001 ≤ k) : field_within.f k f t l = some (decide (∀ x ∈ l, f ≤ x ∧ x ≤ t)) := by
  unfold field_within.f
  exact within_l0 f t l hl l.length 0 k (by omega) (by omega)
theorem rgba_eq (r g b a : Int) (k : Nat) (hk : 1001 ≤ k) : field_RightRGBA.f k r g b a = some (decide (Col r g b a)) := by
  unfold field_RightRGBA.f
  rw [within_eq _ _ _ (by simp) k hk, Option.bind_some]
  congr 1; rw [decide_eq_decide]; unfold Col; simp
theorem rgba07_l0 (l : List Int) (hl : l.length ≤ 1000) : ∀ (d i k : Nat), d + i = l.length → d < k → celluloidref07_RGBA.l0 k l (l.length : Int) (i : Int) = some (decide (∀ x ∈ l.drop i, 0 ≤ x ∧ x ≤ 255)) := by
  intro d
  induction d with
  | zero =>
    intro i k h hk
    obtain ⟨k, rfl⟩ : ∃ m, k = m + 1 := ⟨k - 1, by omega⟩
    simp only [celluloidref07_RGBA.l0]
    rw [if_neg (by omega), List.drop_of_length_le (by omega)]; simp
  | succ d ih =>
    intro i k h hk
    obtain ⟨k, rfl⟩ : ∃ m, k = m + 1 := ⟨k - 1, by omega⟩
    simp only [celluloidref07_RGBA.l0]
    rw [if_pos (by omega), if_pos (by omega), if_pos (by omega), w64_id (by omega) (by omega), show (i : Int) + 1 = ((i + 1 : Nat) : Int) by omega, rd_cons_drop l i (by omega)]
    by_cases h1 : rd l (i : Int) < 0
    · rw [if_pos h1, decide_eq_false]; intro hc; have := hc _ (List.mem_cons_self ..); omega
    · rw [if_neg h1]
      by_cases h2 : rd l (i : Int) > 255
      · rw [if_pos h2, decide_eq_false]; intro hc; have := hc _ (List.mem_cons_self ..); omega
      · rw [if_neg h2, ih (i + 1) k (by omega) (by omega)]
        congr 1; rw [decide_eq_decide]
        constructor
        · intro hh x hx
          rcases List.mem_cons.mp hx with rfl | hx
          · omega
          · exact hh x hx
        · intro hh x hx; exact hh x (List.mem_cons_of_mem _ hx)
theorem rgba07_eq (r g b a : Int) (k : Nat) (hk : 1001 ≤ k) : celluloidref07_RGBA.f k r g b a = some (decide (Col r g b a)) := by
  unfold celluloidref07_RGBA.f
  rw [Option.bind_some]
  refine (rgba07_l0 [r, g, b, a] (by simp) 4 0 k rfl (by omega)).trans ?_
  congr 1; rw [decide_eq_decide]; unfold Col; simp
/-- A part, times the alpha. -/
def fa (n a : Int) : Int := (n * a + 127) / 255
theorem prod_bd {n a : Int} (hn : 0 ≤ n ∧ n ≤ 255) (ha : 0 ≤ a ∧ a ≤ 255) : 0 ≤ n * a ∧ n * a ≤ 255 * a := ⟨Int.mul_nonneg hn.1 ha.1, Int.mul_le_mul_of_nonneg_right hn.2 ha.1⟩
theorem fa_w {n a : Int} (hn : 0 ≤ n ∧ n ≤ 255) (ha : 0 ≤ a ∧ a ≤ 255) : wrap64 (Int.tdiv (wrap64 (wrap64 (n * a) + 127)) 255) = fa n a := by
  have h := prod_bd hn ha
  unfold fa
  rw [w64_id (n := n * a) (by omega) (by omega), w64_id (n := n * a + 127) (by omega) (by omega), Int.tdiv_eq_ediv_of_nonneg (by omega), w64_id (by omega) (by omega)]
def faintS (r g b a : Int) : Int × Int × Int × Int := if Col r g b a then (fa r a, fa g a, fa b a, a) else (0, 0, 0, 0)
theorem faint_eq (r g b a : Int) (k : Nat) (hk : 1001 ≤ k) : paint_Faint.f k r g b a = some (faintS r g b a) := by
  unfold paint_Faint.f faintS
  rw [rgba_eq _ _ _ _ k hk, Option.bind_some]
  by_cases h : Col r g b a
  · have h' := h
    unfold Col at h'
    rw [decide_eq_true h, if_pos rfl, if_pos h, fa_w h'.1 h'.2.2.2, fa_w h'.2.1 h'.2.2.2, fa_w h'.2.2.1 h'.2.2.2]
  · rw [decide_eq_false h, if_neg (by simp), if_neg h]
/-- A part, without the alpha. -/
def cl (n a : Int) : Int := mn ((n * 255 + a / 2) / a) 255
theorem cl_w {n a : Int} (hn : 0 ≤ n ∧ n ≤ 255) (ha : 0 < a ∧ a ≤ 255) : mn (wrap64 (Int.tdiv (wrap64 (wrap64 (n * 255) + wrap64 (Int.tdiv a 2))) a)) 255 = cl n a ∧ 0 ≤ cl n a ∧ cl n a ≤ 255 := by
  have e1 := Int.ediv_le_self a (show 0 ≤ n * 255 + a / 2 by omega)
  have e0 : 0 ≤ (n * 255 + a / 2) / a := Int.ediv_nonneg (by omega) (by omega)
  unfold cl
  rw [w64_id (n := n * 255) (by omega) (by omega), Int.tdiv_eq_ediv_of_nonneg (a := a) (by omega), w64_id (n := a / 2) (by omega) (by omega), w64_id (n := n * 255 + a / 2) (by omega) (by omega), Int.tdiv_eq_ediv_of_nonneg (by omega), w64_id (by omega) (by omega)]
  refine ⟨rfl, ?_⟩
  unfold mn
  omega
def clearS (r g b a : Int) : Int × Int × Int × Int := if Col r g b a ∧ a ≠ 0 then (cl r a, cl g a, cl b a, a) else (0, 0, 0, 0)
theorem clear_eq (r g b a : Int) (k : Nat) (hk : 1001 ≤ k) : paint_Clear.f k r g b a = some (clearS r g b a) := by
  unfold paint_Clear.f clearS
  rw [rgba_eq _ _ _ _ k hk, Option.bind_some]
  by_cases h : Col r g b a
  · rw [decide_eq_true h, if_pos rfl]
    by_cases h0 : a = 0
    · rw [if_pos h0, if_neg (fun hh => hh.2 h0)]
    · have h' := h
      unfold Col at h'
      rw [if_neg h0, if_pos ⟨h, h0⟩, (cl_w h'.1 (a := a) ⟨by omega, by omega⟩).1, (cl_w h'.2.1 (a := a) ⟨by omega, by omega⟩).1, (cl_w h'.2.2.1 (a := a) ⟨by omega, by omega⟩).1]
  · rw [decide_eq_false h, if_neg (by simp), if_neg (fun hh => h hh.1)]
theorem awake_eq (k : Nat) (hk : 1001 ≤ k) : celluloidlaw20_awake.f k = some true := by
  have e1 : faintS 255 100 0 128 = (128, 50, 0, 128) := by unfold faintS; rw [if_pos (by unfold Col; omega)]; rfl
  have e2 : clearS 64 0 0 128 = (128, 0, 0, 128) := by unfold clearS; rw [if_pos ⟨by unfold Col; omega, by omega⟩]; rfl
  unfold celluloidlaw20_awake.f
  rw [faint_eq _ _ _ _ k hk, Option.bind_some, e1, if_pos (by rfl), clear_eq _ _ _ _ k hk, Option.bind_some, e2]
  rfl
end Go.Proofs.Ytmdfcinjmlagcaa.P
namespace Go.Proofs.Ytmdfcinjmlagcaa.P
open Go.RowKit Go.Proofs.YtmdfcinjmlagcaaW.PrintWords Go.Proofs.YtmdfcinjmlagcaaW.PrintLast Go.Proofs.YtmdfcinjmlagcaaW.PrintMore
structure Digit (u v v1 v0 u1 Q : Int) : Prop where
  hv : v = v1 * 4294967296 + v0
  v0a : 0 ≤ v0
  v0b : v0 < 4294967296
  v1a : 2147483648 ≤ v1
  v1b : v1 < 4294967296
  ua : 0 ≤ u
  ub : u < v
  u1a : 0 ≤ u1
  u1b : u1 < 4294967296
  qa : Q * v ≤ u * 4294967296 + u1
  qb : u * 4294967296 + u1 < Q * v + v
theorem lt_of_mul {a b v : Int} (hv : 0 < v) (h : a * v < b * v) : a < b := by
  rcases Int.lt_or_le a b with h1 | h1
  · exact h1
  · have := Int.mul_le_mul_of_nonneg_right h1 (Int.le_of_lt hv); omega
namespace Digit
variable {u v v1 v0 u1 Q : Int}
theorem vpos (d : Digit u v v1 v0 u1 Q) : 0 < v := by have := d.hv; have := d.v1a; have := d.v0a; omega
theorem q0 (d : Digit u v v1 v0 u1 Q) : 0 ≤ Q := by
  have h := d.qb; have := d.ua; have := d.u1a; have hv := d.vpos
  have : -1 < Q := lt_of_mul hv (by have : (Q + 1) * v = Q * v + v := by rw [Int.add_mul, Int.one_mul]
                                    omega)
  omega
theorem above (d : Digit u v v1 v0 u1 Q) {q : Int} (h : q * v ≤ u * 4294967296 + u1) : q ≤ Q := by
  have : q < Q + 1 := lt_of_mul d.vpos (by have := d.qb; rw [Int.add_mul, Int.one_mul]; omega)
  omega
theorem prod (d : Digit u v v1 v0 u1 Q) {q r : Int} (h : q * v1 + r = u) : q * v = (u - r) * 4294967296 + q * v0 := by
  rw [d.hv, Int.mul_add, ← Int.mul_assoc, show q * v1 = u - r by omega]
/-- It says no: the guess is right. -/
theorem no (d : Digit u v v1 v0 u1 Q) {q r : Int} (h : q * v1 + r = u) (hq : Q ≤ q) (ht : q * v0 ≤ 4294967296 * r + u1) : q = Q := by
  have := d.above (q := q) (by rw [d.prod h]; omega); omega
/-- What is left over is great: the guess is right. -/
theorem out (d : Digit u v v1 v0 u1 Q) {q r : Int} (h : q * v1 + r = u) (hq : Q ≤ q) (hB : q ≤ 4294967296) (hr : 4294967296 ≤ r) : q = Q := by
  refine d.no h hq ?_
  have h0 := d.q0
  have h1 : q * v0 ≤ 4294967296 * v0 := Int.mul_le_mul_of_nonneg_right hB d.v0a
  have := d.v0b; have := d.u1a; omega
end Digit
/-- A digit, out of the division itself. -/
theorem Digit.of {u v v1 v0 u1 : Int} (hv : v = v1 * 4294967296 + v0) (v0a : 0 ≤ v0) (v0b : v0 < 4294967296) (v1a : 2147483648 ≤ v1) (v1b : v1 < 4294967296) (ua : 0 ≤ u) (ub : u < v) (u1a : 0 ≤ u1) (u1b : u1 < 4294967296) :
    Digit u v v1 v0 u1 ((u * 4294967296 + u1) / v) := by
  have h := Int.mul_ediv_add_emod (u * 4294967296 + u1) v
  have hm := Int.emod_nonneg (u * 4294967296 + u1) (show v ≠ 0 by omega)
  have hl := Int.emod_lt_of_pos (u * 4294967296 + u1) (show 0 < v by omega)
  rw [Int.mul_comm] at h
  exact ⟨hv, v0a, v0b, v1a, v1b, ua, ub, u1a, u1b, by omega, by omega⟩
end Go.Proofs.Ytmdfcinjmlagcaa.P
namespace Go.Proofs.Ytmdfcinjmlagcaa.P
open Go.RowKit Go.Proofs.YtmdfcinjmlagcaaW.PrintWords Go.Proofs.YtmdfcinjmlagcaaW.PrintLast Go.Proofs.YtmdfcinjmlagcaaW.PrintMore
theorem mul_bound {a b : Int} {L M : Nat} (ha : a.natAbs ≤ L) (hb : b.natAbs ≤ M) : (a * b).natAbs ≤ L * M := by
  rw [Int.natAbs_mul]; exact Nat.mul_le_mul ha hb
end Go.Proofs.Ytmdfcinjmlagcaa.P
namespace Go.Proofs.Ytmdfcinjmlagcaa.P
open Go.RowKit Go.Proofs.YtmdfcinjmlagcaaW.PrintWords Go.Proofs.YtmdfcinjmlagcaaW.PrintLast Go.Proofs.YtmdfcinjmlagcaaW.PrintMore
theorem mb {x y B C : Int} (h1 : -B ≤ x) (h2 : x ≤ B) (h3 : -C ≤ y) (h4 : y ≤ C) : -(B * C) ≤ x * y ∧ x * y ≤ B * C := by
  have hB : 0 ≤ B := by omega
  have hx : x.natAbs ≤ B.toNat := by omega
  have hy : y.natAbs ≤ C.toNat := by omega
  have := mul_bound hx hy
  have e : ((B.toNat * C.toNat : Nat) : Int) = B * C := by
    rw [Int.natCast_mul, Int.toNat_of_nonneg (by omega), Int.toNat_of_nonneg (by omega)]
  omega
end Go.Proofs.Ytmdfcinjmlagcaa.P
namespace Go.Proofs.Ytmdfcinjmlagcaa.P
open Go.RowKit Go.Proofs.YtmdfcinjmlagcaaW.PrintWords Go.Proofs.YtmdfcinjmlagcaaW.PrintLast Go.Proofs.YtmdfcinjmlagcaaW.PrintMore
/-- Is a change right? -/
def Cxr (m0 m1 m2 m3 a0 a1 a2 a3 : Int) : Prop := ((-512 ≤ m0 ∧ m0 ≤ 512) ∧ (-512 ≤ m1 ∧ m1 ≤ 512) ∧ (-512 ≤ m2 ∧ m2 ≤ 512) ∧ (-512 ≤ m3 ∧ m3 ≤ 512)) ∧ (-255 ≤ a0 ∧ a0 ≤ 255) ∧ (-255 ≤ a1 ∧ a1 ≤ 255) ∧ (-255 ≤ a2 ∧ a2 ≤ 255) ∧ (-255 ≤ a3 ∧ a3 ≤ 255)
instance (m0 m1 m2 m3 a0 a1 a2 a3 : Int) : Decidable (Cxr m0 m1 m2 m3 a0 a1 a2 a3) := by unfold Cxr; infer_instance
theorem cx_eq (m0 m1 m2 m3 a0 a1 a2 a3 : Int) (k : Nat) (hk : 1001 ≤ k) : field_RightCx.f k m0 m1 m2 m3 a0 a1 a2 a3 = some (decide (Cxr m0 m1 m2 m3 a0 a1 a2 a3)) := by
  unfold field_RightCx.f
  rw [within_eq _ _ _ (by simp) k hk, within_eq _ _ _ (by simp) k hk, Option.bind_some]
  by_cases h : ∀ x ∈ [m0, m1, m2, m3], -512 ≤ x ∧ x ≤ 512
  · rw [decide_eq_true h, if_pos rfl]; congr 1; rw [decide_eq_decide]; unfold Cxr; simp at h ⊢; omega
  · rw [decide_eq_false h, if_neg (by simp)]; congr 1; symm; apply decide_eq_false; unfold Cxr; simp at h; intro hh; have := h hh.1.1.1 hh.1.1.2 hh.1.2.1.1 hh.1.2.1.2 hh.1.2.2.1.1 hh.1.2.2.1.2; omega
/-- A part of a colour, changed. -/
def cc (n m a : Int) : Int := mn (mx (n * m / 256 + a) 0) 255
theorem cc_w {n m a : Int} (hn : 0 ≤ n ∧ n ≤ 255) (hm : -512 ≤ m ∧ m ≤ 512) (ha : -255 ≤ a ∧ a ≤ 255) : wrap64 (n * m) = n * m ∧ wrap64 (n * m / 256 + a) = n * m / 256 + a ∧ -130560 ≤ n * m ∧ n * m ≤ 130560 := by
  have m1 := mb (x := n) (y := m) (B := 255) (C := 512) (by omega) hn.2 hm.1 hm.2
  exact ⟨w64_id (by omega) (by omega), w64_id (by omega) (by omega), by omega, by omega⟩
theorem clamp_eq (a b c : Int) : affine_clamp.f a b c = some (mn (mx a b) c) := rfl
/-- A colour, changed. -/
def colS (m0 m1 m2 m3 a0 a1 a2 a3 r g b a : Int) : Int × Int × Int × Int := if Cxr m0 m1 m2 m3 a0 a1 a2 a3 ∧ Col r g b a then (cc r m0 a0, cc g m1 a1, cc b m2 a2, cc a m3 a3) else (0, 0, 0, 0)
theorem color_eq (m0 m1 m2 m3 a0 a1 a2 a3 r g b a : Int) (k : Nat) (hk : 1100 ≤ k) : affine_Color.f k m0 m1 m2 m3 a0 a1 a2 a3 r g b a = some (colS m0 m1 m2 m3 a0 a1 a2 a3 r g b a) := by
  obtain ⟨k, rfl⟩ : ∃ m, k = m + 10 := ⟨k - 10, by omega⟩
  have no : affine_Color.j0 (k + 10) true m0 m1 m2 m3 a0 a1 a2 a3 r g b a = some (0, 0, 0, 0) := by rw [affine_Color.j0, if_pos rfl]
  unfold affine_Color.f colS
  rw [cx_eq _ _ _ _ _ _ _ _ _ (by omega), Option.bind_some]
  by_cases h : Cxr m0 m1 m2 m3 a0 a1 a2 a3
  · rw [decide_eq_true h, if_pos rfl, rgba_eq _ _ _ _ _ (by omega), Option.bind_some]
    by_cases h' : Col r g b a
    · rw [decide_eq_true h', Bool.not_true, affine_Color.j0, if_neg (by simp), if_pos ⟨h, h'⟩]
      obtain ⟨⟨p0, p1, p2, p3⟩, q0, q1, q2, q3⟩ := h
      obtain ⟨z0, z1, z2, z3⟩ := h'
      have w0 := cc_w z0 p0 q0
      have w1 := cc_w z1 p1 q1
      have w2 := cc_w z2 p2 q2
      have w3 := cc_w z3 p3 q3
      rw [affine_Color.l0, if_pos (by decide), if_pos rfl, w0.1, w0.2.1, clamp_eq, Option.bind_some]
      rw [affine_Color.l0, if_pos (by decide), if_neg (by decide), if_pos (by decide), w1.1, w1.2.1, clamp_eq, Option.bind_some]
      rw [affine_Color.l0, if_pos (by decide), if_neg (by decide), if_neg (by decide), if_pos (by decide), w2.1, w2.2.1, clamp_eq, Option.bind_some]
      rw [affine_Color.l0, if_pos (by decide), if_neg (by decide), if_neg (by decide), if_neg (by decide), if_pos (by decide), w3.1, w3.2.1, clamp_eq, Option.bind_some]
      rw [affine_Color.l0, if_neg (by decide)]; rfl
    · rw [decide_eq_false h', Bool.not_false, no, if_neg (fun hh => h' hh.2)]
  · rw [decide_eq_false h, if_neg (by simp), no, if_neg (fun hh => h hh.1)]
end Go.Proofs.Ytmdfcinjmlagcaa.P
namespace Go.Proofs.Ytmdfcinjmlagcaa.P
open Go.RowKit Go.Proofs.YtmdfcinjmlagcaaW.PrintWords Go.Proofs.YtmdfcinjmlagcaaW.PrintLast Go.Proofs.YtmdfcinjmlagcaaW.PrintMore
theorem refs_l0 (z l : List S43) (hl : l.length * 48 ≤ 140737488351232) : ∀ (d i k : Nat) (L : List S48), i + d = l.length → L.length ≤ i → d < k → ∃ v, celluloidlaw20_refs.l0 k z L l (l.length : Int) (i : Int) = some v := by
  intro d
  induction d with
  | zero =>
    intro i k L h hL hk
    obtain ⟨k, rfl⟩ : ∃ m, k = m + 1 := ⟨k - 1, by omega⟩
    exact ⟨_, by rw [celluloidlaw20_refs.l0, if_neg (by omega)]⟩
  | succ d ih =>
    intro i k L h hL hk
    obtain ⟨k, rfl⟩ : ∃ m, k = m + 1 := ⟨k - 1, by omega⟩
    by_cases h5 : (((rd_T43 l (i : Int)).f3).length : Int) > 500
    · exact ⟨_, by rw [celluloidlaw20_refs.l0, if_pos (by omega), if_pos (by omega), if_pos (by omega), if_pos h5]⟩
    · obtain ⟨v, hv⟩ := ih (i + 1) k (L ++ [(⟨(rd_T43 l (i : Int)).f0, (rd_T43 l (i : Int)).f1, (rd_T43 l (i : Int)).f2, (rd_T43 l (i : Int)).f3⟩ : S48)]) (by omega) (by simp; omega) (by omega)
      exact ⟨v, by rw [celluloidlaw20_refs.l0, if_pos (by omega), if_pos (by omega), if_pos (by omega), if_neg h5, if_pos (by omega), w64_id (by omega) (by omega), show (i : Int) + 1 = ((i + 1 : Nat) : Int) by omega]; exact hv⟩
theorem refs_some (l : List S43) (hl : l.length * 48 ≤ 140737488351232) (k : Nat) (hk : l.length < k) : ∃ v, celluloidlaw20_refs.f k l = some v := by
  unfold celluloidlaw20_refs.f
  exact refs_l0 l l hl l.length 0 k [] (by omega) (by simp) hk
/-- A fill of one colour is right where its colour is. -/
theorem solid_eq (r g b a : Int) (k : Nat) (hk : 1001 ≤ k) : style_RightFill.f k 0 r g b a 0 0 0 0 0 0 0 [] 0 = some (decide (Col r g b a)) := by
  obtain ⟨k, rfl⟩ : ∃ m, k = m + 1 := ⟨k - 1, by omega⟩
  have e : api_Stop.f (k + 1) [] [] = some true := by
    unfold api_Stop.f
    rw [if_pos rfl, api_Stop.l0, if_neg (by decide)]
  have s : style_SameFill.f (k + 1) 0 r g b a 0 0 0 0 0 0 0 [] 0 0 r g b a 0 0 0 0 0 0 0 [] 0 = some true := by
    unfold style_SameFill.f
    rw [if_pos rfl, if_pos (by simp), if_pos (by rfl), if_pos rfl, if_pos rfl, e]; rfl
  unfold style_RightFill.f
  rw [if_pos rfl, rgba_eq _ _ _ _ _ (by omega), Option.bind_some]
  by_cases h : Col r g b a
  · rw [decide_eq_true h, if_pos rfl, s]; rfl
  · rw [decide_eq_false h, if_neg (by simp)]
/-- The colour of a fill of one colour, at any point. -/
def plainAt (r g b a m0 m1 m2 m3 a0 a1 a2 a3 : Int) : Int × Int × Int × Int :=
  if Col r g b a then faintS (colS m0 m1 m2 m3 a0 a1 a2 a3 r g b a).1 (colS m0 m1 m2 m3 a0 a1 a2 a3 r g b a).2.1 (colS m0 m1 m2 m3 a0 a1 a2 a3 r g b a).2.2.1 (colS m0 m1 m2 m3 a0 a1 a2 a3 r g b a).2.2.2 else (0, 0, 0, 0)
theorem at_plain (r g b a n0 n1 n2 n3 n4 n5 m0 m1 m2 m3 a0 a1 a2 a3 : Int) (l : List S43) (u v : Int) (k : Nat) (hk : 1100 ≤ k) :
    paint_At.f k 0 r g b a 0 0 0 0 0 0 0 [] 0 n0 n1 n2 n3 n4 n5 m0 m1 m2 m3 a0 a1 a2 a3 l u v = some (plainAt r g b a m0 m1 m2 m3 a0 a1 a2 a3) := by
  unfold paint_At.f plainAt
  rw [solid_eq _ _ _ _ k (by omega), Option.bind_some]
  by_cases h : Col r g b a
  · rw [decide_eq_true h, if_pos rfl, if_pos rfl, if_pos h, color_eq _ _ _ _ _ _ _ _ _ _ _ _ k (by omega), Option.bind_some, faint_eq _ _ _ _ k (by omega), Option.bind_some]
  · rw [decide_eq_false h, if_neg (by simp), if_neg h]
end Go.Proofs.Ytmdfcinjmlagcaa.P
namespace Go.Proofs.Ytmdfcinjmlagcaa.Pure
open Go.RowKit Go.Proofs.Ytmdfcinjmlagcaa.P Go.Proofs.YtmdfcinjmlagcaaW.PrintWords Go.Proofs.YtmdfcinjmlagcaaW.PrintLast Go.Proofs.YtmdfcinjmlagcaaW.PrintMore
theorem cc_same {n : Int} (h0 : 0 ≤ n) (h1 : n ≤ 255) : cc n 256 0 = n := by unfold cc mn mx; omega
theorem plain_same {r g b a : Int} (h : Col r g b a) : plainAt r g b a 256 256 256 256 0 0 0 0 = faintS r g b a := by
  have e : colS 256 256 256 256 0 0 0 0 r g b a = (r, g, b, a) := by
    unfold colS
    rw [if_pos ⟨by unfold Cxr; omega, h⟩]
    obtain ⟨h0, h1, h2, h3⟩ := h
    rw [cc_same h0.1 h0.2, cc_same h1.1 h1.2, cc_same h2.1 h2.2, cc_same h3.1 h3.2]
  unfold plainAt
  rw [if_pos h, e]
theorem PaintPlain : celluloidlaw20_PaintPlain.Pure := by
  intro c m n cx l p q _ _ _ _ _ hl _ _
  obtain ⟨k, hk⟩ : ∃ k : Nat, 2000 + l.length < k := ⟨_, Nat.lt_succ_self _⟩
  refine ⟨k + 1, ?_⟩
  unfold celluloidlaw20_PaintPlain.f
  obtain ⟨w, hw⟩ := refs_some l hl (k + 1) (by omega)
  rw [hw, Option.bind_some]
  generalize c.f0 = r
  generalize c.f1 = g
  generalize c.f2 = b
  generalize c.f3 = a
  have quit : celluloidlaw20_PaintPlain.j0 (k + 1) l true r g b a m.f0 m.f1 m.f2 m.f3 m.f4 m.f5 n.f0 n.f1 n.f2 n.f3 n.f4 n.f5 cx.f0.f0 cx.f0.f1 cx.f0.f2 cx.f0.f3 cx.f1.f0 cx.f1.f1 cx.f1.f2 cx.f1.f3 p.f0 p.f1 q.f0 q.f1 = some true := by
    rw [celluloidlaw20_PaintPlain.j0, if_pos rfl, awake_eq k (by omega)]; rfl
  by_cases hb : w.2 = true
  · rw [if_pos hb, rgba07_eq _ _ _ _ _ (by omega), Option.bind_some]
    by_cases h : Col r g b a
    · rw [decide_eq_true h, Bool.not_true, celluloidlaw20_PaintPlain.j0, if_neg (by simp), at_plain _ _ _ _ _ _ _ _ _ _ _ _ _ _ _ _ _ _ _ _ _ k (by omega), Option.bind_some, at_plain _ _ _ _ _ _ _ _ _ _ _ _ _ _ _ _ _ _ _ _ _ k (by omega), Option.bind_some, if_pos (by simp), at_plain _ _ _ _ _ _ _ _ _ _ _ _ _ _ _ _ _ _ _ _ _ k (by omega), Option.bind_some, plain_same h, faint_eq _ _ _ _ k (by omega), Option.bind_some, if_pos (by simp), awake_eq k (by omega)]
      rfl
    · rw [decide_eq_false h]; exact quit
  · rw [if_neg hb]; exact quit
end Go.Proofs.Ytmdfcinjmlagcaa.Pure
