/- The colour of any fill, by any matrix and change, with any bitmaps, at any point is what the document says. (prune.py) -/
import Derived.Test.YtmdfcinjmlagcaaCx0
import Derived.Test.YtmdfcinjmlagcaaCx1
import Derived.Test.YtmdfcinjmlagcaaCx3
import Derived.Test.YtmdfcinjmlagcaaCx5
import Derived.Test.YtmdfcinjmlagcaaCx7
import Derived.Test.YtmdfcinjmlagcaaCx8
import Derived.Test.YtmdfcinjmlagcaaCx10
import Derived.Test.YtmdfcinjmlagcaaCx11
import Derived.Test.YtmdfcinjmlagcaaCx12
import Derived.Test.YtmdfcinjmlagcaaCx13
import Derived.Test.YtmdfcinjmlagcaaCx15
import Derived.Test.YtmdfcinjmlagcaaCx16
import Derived.Test.YtmdfcinjmlagcaaCx17
import Derived.Test.YtmdfcinjmlagcaaCx18
import Derived.Test.YtmdfcinjmlagcaaCxC
import Derived.Test.YtmdfcinjmlagcaaCxD
import Derived.Test.YtmdfcinjmlagcaaCxG
import Derived.Test.YtmdfcinjmlagcaaCxP
import Derived.Test.YtmdfcinjmlagcaaPx0
import Derived.Laws.BitsAllLaws
import Derived.Laws.MathBits
import Derived.Lib.BitFns
import Derived.Test.YtmdfcinjmlagcaaSayPaintPoints
namespace Go.Proofs.Ytmdfcinjmlagcaa.P
open Go.RowKit Go.Proofs.YtmdfcinjmlagcaaW.PrintWords Go.Proofs.YtmdfcinjmlagcaaW.PrintLast Go.Proofs.YtmdfcinjmlagcaaW.PrintMore
theorem w64_id {n : Int} (h0 : -9223372036854775808 ≤ n) (h1 : n < 9223372036854775808) : wrap64 n = n := by unfold wrap64; omega
/-- Is a colour right? -/
def Col (r g b a : Int) : Prop := (0 ≤ r ∧ r ≤ 255) ∧ (0 ≤ g ∧ g ≤ 255) ∧ (0 ≤ b ∧ b ≤ 255) ∧ (0 ≤ a ∧ a ≤ 255)
instance (r g b a : Int) : Decidable (Col r g b a) := by unfold Col; infer_instance
theorem rd_cons_drop (l : List Int) (i : Nat) (h : i < l.length) : l.drop i = rd l (i : Int) :: l.drop (i + 1) := by
  rw [List.drop_eq_getElem_cons h]
  simp [rd, List.getD_eq_getElem?_getD, h]
theorem within_l0 (f t : Int) (l : List Int) (hl : l.length ≤ 1000) : ∀ (d i k : Nat), d + i = l.length → d < k → field_within.l0 k f t l (l.length : Int) (i : Int) = some (decide (∀ x ∈ l.drop i, f ≤ x ∧ x ≤ t)) := by
  intro d
  induction d with
  | zero =>
    intro i k h hk
    obtain ⟨k, rfl⟩ : ∃ m, k = m + 1 := ⟨k - 1, by omega⟩
    simp only [field_within.l0]
    rw [if_neg (by omega), List.drop_of_length_le (by omega)]; simp
  | succ d ih =>
    intro i k h hk
    obtain ⟨k, rfl⟩ : ∃ m, k = m + 1 := ⟨k - 1, by omega⟩
    simp only [field_within.l0]
    rw [if_pos (by omega), if_pos (by omega), if_pos (by omega), w64_id (by omega) (by omega), show (i : Int) + 1 = ((i + 1 : Nat) : Int) by omega, rd_cons_drop l i (by omega)]
    by_cases h1 : rd l (i : Int) < f
    · rw [if_pos h1, decide_eq_false]; intro hc; have := hc _ (List.mem_cons_self ..); omega
    · rw [if_neg h1]
      by_cases h2 : rd l (i : Int) > t
      · rw [if_pos h2, decide_eq_false]; intro hc; have := hc _ (List.mem_cons_self ..); omega
      · rw [if_neg h2, ih (i + 1) k (by omega) (by omega)]
        congr 1; rw [decide_eq_decide]
        constructor
        · intro hh x hx
          rcases List.mem_cons.mp hx with rfl | hx
          · omega
          · exact hh x hx
        · intro hh x hx; exact hh x (List.mem_cons_of_mem _ hx)
theorem within_eq (f t : Int) (l : List Int) (hl : l.length ≤ 1000) (k : Nat) (hk : 1001 ≤ k) : field_within.f k f t l = some (decide (∀ x ∈ l, f ≤ x ∧ x ≤ t)) := by
  unfold field_within.f
  exact within_l0 f t l hl l.length 0 k (by omega) (by omega)
theorem rgba_eq (r g b a : Int) (k : Nat) (hk : 1001 ≤ k) : field_RightRGBA.f k r g b a = some (decide (Col r g b a)) := by
  unfold field_RightRGBA.f
  rw [within_eq _ _ _ (by simp) k hk, Option.bind_some]
  congr 1; rw [decide_eq_decide]; unfold Col; simp
theorem rgba07_l0 (l : List Int) (hl : l.length ≤ 1000) : ∀ (d i k : Nat), d + i = l.length → d < k → celluloidref07_RGBA.l0 k l (l.length : Int) (i : Int) = some (decide (∀ x ∈ l.drop i, 0 ≤ x ∧ x ≤ 255)) := by
  intro d
  induction d with
  | zero =>
    intro i k h hk
    obtain ⟨k, rfl⟩ : ∃ m, k = m + 1 := ⟨k - 1, by omega⟩
    simp only [celluloidref07_RGBA.l0]
    rw [if_neg (by omega), List.drop_of_length_le (by omega)]; simp
  | succ d ih =>
    intro i k h hk
    obtain ⟨k, rfl⟩ : ∃ m, k = m + 1 := ⟨k - 1, by omega⟩
    simp only [celluloidref07_RGBA.l0]
    rw [if_pos (by omega), if_pos (by omega), if_pos (by omega), w64_id (by omega) (by omega), show (i : Int) + 1 = ((i + 1 : Nat) : Int) by omega, rd_cons_drop l i (by omega)]
    by_cases h1 : rd l (i : Int) < 0
    · rw [if_pos h1, decide_eq_false]; intro hc; have := hc _ (List.mem_cons_self ..); omega
    · rw [if_neg h1]
      by_cases h2 : rd l (i : Int) > 255
      · rw [if_pos h2, decide_eq_false]; intro hc; have := hc _ (List.mem_cons_self ..); omega
      · rw [if_neg h2, ih (i + 1) k (by omega) (by omega)]
        congr 1; rw [decide_eq_decide]
        constructor
        · intro hh x hx
          rcases List.mem_cons.mp hx with rfl | hx
          · omega
          · exact hh x hx
        · intro hh x hx; exact hh x (List.mem_cons_of_mem _ hx)
theorem rgba07_eq (r g b a : Int) (k : Nat) (hk : 1001 ≤ k) : celluloidref07_RGBA.f k r g b a = some (decide (Col r g b a)) := by
  unfold celluloidref07_RGBA.f
  rw [Option.bind_some]
  refine (rgba07_l0 [r, g, b, a] (by simp) 4 0 k rfl (by omega)).trans ?_
  congr 1; rw [decide_eq_decide]; unfold Col; simp
/-- A part, times the alpha. -/
def fa (n a : Int) : Int := (n * a + 127) / 255
theorem prod_bd {n a : Int} (hn : 0 ≤ n ∧ n ≤ 255) (ha : 0 ≤ a ∧ a ≤ 255) : 0 ≤ n * a ∧ n * a ≤ 255 * a := ⟨Int.mul_nonneg hn.1 ha.1, Int.mul_le_mul_of_nonneg_right hn.2 ha.1⟩
theorem fa_w {n a : Int} (hn : 0 ≤ n ∧ n ≤ 255) (ha : 0 ≤ a ∧ a ≤ 255) : wrap64 (Int.tdiv (wrap64 (wrap64 (n * a) + 127)) 255) = fa n a := by
  have h := prod_bd hn ha
  unfold fa
  rw [w64_id (n := n * a) (by omega) (by omega), w64_id (n := n * a + 127) (by omega) (by omega), Int.tdiv_eq_ediv_of_nonneg (by omega), w64_id (by omega) (by omega)]
def faintS (r g b a : Int) : Int × Int × Int × Int := if Col r g b a then (fa r a, fa g a, fa b a, a) else (0, 0, 0, 0)
theorem faint_eq (r g b a : Int) (k : Nat) (hk : 1001 ≤ k) : paint_Faint.f k r g b a = some (faintS r g b a) := by
  unfold paint_Faint.f faintS
  rw [rgba_eq _ _ _ _ k hk, Option.bind_some]
  by_cases h : Col r g b a
  · have h' := h
    unfold Col at h'
    rw [decide_eq_true h, if_pos rfl, if_pos h, fa_w h'.1 h'.2.2.2, fa_w h'.2.1 h'.2.2.2, fa_w h'.2.2.1 h'.2.2.2]
  · rw [decide_eq_false h, if_neg (by simp), if_neg h]
/-- A part, without the alpha. -/
def cl (n a : Int) : Int := mn ((n * 255 + a / 2) / a) 255
theorem cl_w {n a : Int} (hn : 0 ≤ n ∧ n ≤ 255) (ha : 0 < a ∧ a ≤ 255) : mn (wrap64 (Int.tdiv (wrap64 (wrap64 (n * 255) + wrap64 (Int.tdiv a 2))) a)) 255 = cl n a ∧ 0 ≤ cl n a ∧ cl n a ≤ 255 := by
  have e1 := Int.ediv_le_self a (show 0 ≤ n * 255 + a / 2 by omega)
  have e0 : 0 ≤ (n * 255 + a / 2) / a := Int.ediv_nonneg (by omega) (by omega)
  unfold cl
  rw [w64_id (n := n * 255) (by omega) (by omega), Int.tdiv_eq_ediv_of_nonneg (a := a) (by omega), w64_id (n := a / 2) (by omega) (by omega), w64_id (n := n * 255 + a / 2) (by omega) (by omega), Int.tdiv_eq_ediv_of_nonneg (by omega), w64_id (by omega) (by omega)]
  refine ⟨rfl, ?_⟩
  unfold mn
  omega
def clearS (r g b a : Int) : Int × Int × Int × Int := if Col r g b a ∧ a ≠ 0 then (cl r a, cl g a, cl b a, a) else (0, 0, 0, 0)
theorem clear_eq (r g b a : Int) (k : Nat) (hk : 1001 ≤ k) : paint_Clear.f k r g b a = some (clearS r g b a) := by
  unfold paint_Clear.f clearS
  rw [rgba_eq _ _ _ _ k hk, Option.bind_some]
  by_cases h : Col r g b a
  · rw [decide_eq_true h, if_pos rfl]
    by_cases h0 : a = 0
    · rw [if_pos h0, if_neg (fun hh => hh.2 h0)]
    · have h' := h
      unfold Col at h'
      rw [if_neg h0, if_pos ⟨h, h0⟩, (cl_w h'.1 (a := a) ⟨by omega, by omega⟩).1, (cl_w h'.2.1 (a := a) ⟨by omega, by omega⟩).1, (cl_w h'.2.2.1 (a := a) ⟨by omega, by omega⟩).1]
  · rw [decide_eq_false h, if_neg (by simp), if_neg (fun hh => h hh.1)]
/-- Is a colour right, and no part above its alpha? -/
def Fnt (r g b a : Int) : Prop := Col r g b a ∧ r ≤ a ∧ g ≤ a ∧ b ≤ a
instance (r g b a : Int) : Decidable (Fnt r g b a) := by unfold Fnt; infer_instance
theorem awake_eq (k : Nat) (hk : 1001 ≤ k) : celluloidlaw20_awake.f k = some true := by
  have e1 : faintS 255 100 0 128 = (128, 50, 0, 128) := by unfold faintS; rw [if_pos (by unfold Col; omega)]; rfl
  have e2 : clearS 64 0 0 128 = (128, 0, 0, 128) := by unfold clearS; rw [if_pos ⟨by unfold Col; omega, by omega⟩]; rfl
  unfold celluloidlaw20_awake.f
  rw [faint_eq _ _ _ _ k hk, Option.bind_some, e1, if_pos (by rfl), clear_eq _ _ _ _ k hk, Option.bind_some, e2]
  rfl
end Go.Proofs.Ytmdfcinjmlagcaa.P
namespace Go.Proofs.Ytmdfcinjmlagcaa.P
open Go.RowKit Go.Proofs.YtmdfcinjmlagcaaW.PrintWords Go.Proofs.YtmdfcinjmlagcaaW.PrintLast Go.Proofs.YtmdfcinjmlagcaaW.PrintMore
theorem u64_id {n : Int} (h0 : 0 ≤ n) (h1 : n < 18446744073709551616) : IntKind.u64.wrap n = n := by rw [IntKind.wrap_u64]; omega
structure Digit (u v v1 v0 u1 Q : Int) : Prop where
  hv : v = v1 * 4294967296 + v0
  v0a : 0 ≤ v0
  v0b : v0 < 4294967296
  v1a : 2147483648 ≤ v1
  v1b : v1 < 4294967296
  ua : 0 ≤ u
  ub : u < v
  u1a : 0 ≤ u1
  u1b : u1 < 4294967296
  qa : Q * v ≤ u * 4294967296 + u1
  qb : u * 4294967296 + u1 < Q * v + v
theorem lt_of_mul {a b v : Int} (hv : 0 < v) (h : a * v < b * v) : a < b := by
  rcases Int.lt_or_le a b with h1 | h1
  · exact h1
  · have := Int.mul_le_mul_of_nonneg_right h1 (Int.le_of_lt hv); omega
namespace Digit
variable {u v v1 v0 u1 Q : Int}
theorem vpos (d : Digit u v v1 v0 u1 Q) : 0 < v := by have := d.hv; have := d.v1a; have := d.v0a; omega
theorem q0 (d : Digit u v v1 v0 u1 Q) : 0 ≤ Q := by
  have h := d.qb; have := d.ua; have := d.u1a; have hv := d.vpos
  have : -1 < Q := lt_of_mul hv (by have : (Q + 1) * v = Q * v + v := by rw [Int.add_mul, Int.one_mul]
                                    omega)
  omega
theorem qB (d : Digit u v v1 v0 u1 Q) : Q < 4294967296 := by
  have h := d.qa; have := d.ub; have := d.u1b; have hv := d.vpos
  exact lt_of_mul hv (by omega)
theorem below (d : Digit u v v1 v0 u1 Q) {q : Int} (h : u * 4294967296 + u1 < q * v) : Q < q := lt_of_mul d.vpos (by have := d.qa; omega)
theorem above (d : Digit u v v1 v0 u1 Q) {q : Int} (h : q * v ≤ u * 4294967296 + u1) : q ≤ Q := by
  have : q < Q + 1 := lt_of_mul d.vpos (by have := d.qb; rw [Int.add_mul, Int.one_mul]; omega)
  omega
theorem prod (d : Digit u v v1 v0 u1 Q) {q r : Int} (h : q * v1 + r = u) : q * v = (u - r) * 4294967296 + q * v0 := by
  rw [d.hv, Int.mul_add, ← Int.mul_assoc, show q * v1 = u - r by omega]
/-- The test says yes: the guess is too great. -/
theorem yes (d : Digit u v v1 v0 u1 Q) {q r : Int} (h : q * v1 + r = u) (ht : 4294967296 ≤ q ∨ 4294967296 * r + u1 < q * v0) : Q ≤ q - 1 := by
  rcases ht with ht | ht
  · have := d.qB; omega
  · have := d.below (q := q) (by rw [d.prod h]; omega); omega
/-- It says no: the guess is right. -/
theorem no (d : Digit u v v1 v0 u1 Q) {q r : Int} (h : q * v1 + r = u) (hq : Q ≤ q) (ht : q * v0 ≤ 4294967296 * r + u1) : q = Q := by
  have := d.above (q := q) (by rw [d.prod h]; omega); omega
/-- What is left over is great: the guess is right. -/
theorem out (d : Digit u v v1 v0 u1 Q) {q r : Int} (h : q * v1 + r = u) (hq : Q ≤ q) (hB : q ≤ 4294967296) (hr : 4294967296 ≤ r) : q = Q := by
  refine d.no h hq ?_
  have h0 := d.q0
  have h1 : q * v0 ≤ 4294967296 * v0 := Int.mul_le_mul_of_nonneg_right hB d.v0a
  have := d.v0b; have := d.u1a; omega
theorem small (d : Digit u v v1 v0 u1 Q) {q : Int} (h0 : 0 ≤ q) (h1 : q < 4294967296) : 0 ≤ q * v0 ∧ q * v0 < 18446744073709551616 := by
  have h2 : q * v0 ≤ 4294967295 * v0 := Int.mul_le_mul_of_nonneg_right (by omega) d.v0a
  have := d.v0b
  exact ⟨Int.mul_nonneg h0 d.v0a, by omega⟩
/-- The first guess. -/
theorem init (d : Digit u v v1 v0 u1 Q) : Q ≤ u / v1 ∧ u / v1 ≤ 4294967297 ∧ u / v1 * v1 + (u - u / v1 * v1) = u ∧ 0 ≤ u - u / v1 * v1 ∧ u - u / v1 * v1 < v1 := by
  have h1 := d.v1a
  have hd := Int.mul_ediv_add_emod u v1
  have hm := Int.emod_nonneg u (show v1 ≠ 0 by omega)
  have hl := Int.emod_lt_of_pos u (show 0 < v1 by omega)
  rw [Int.mul_comm] at hd
  refine ⟨?_, ?_, by omega, by omega, by omega⟩
  · rw [Int.le_ediv_iff_mul_le (by omega)]
    have h := d.qa; rw [d.hv, Int.mul_add, ← Int.mul_assoc] at h
    have := Int.mul_nonneg d.q0 d.v0a; have := d.u1b
    omega
  · have : u / v1 < 4294967298 := by
      rw [Int.ediv_lt_iff_lt_mul (by omega)]
      have := d.ub; have := d.hv; have := d.v0b; omega
    omega
end Digit
/-- What is left behind a digit, modulo 2^64. -/
theorem rest_wrap {u v u1 Q : Int} (h0 : Q * v ≤ u * 4294967296 + u1) (h1 : u * 4294967296 + u1 < Q * v + v) (hv : v < 18446744073709551616) :
    IntKind.u64.wrap (IntKind.u64.wrap (IntKind.u64.wrap (u * 4294967296) + u1) - IntKind.u64.wrap (Q * v)) = u * 4294967296 + u1 - Q * v := by
  simp only [IntKind.wrap_u64]
  generalize Q * v = z at *
  omega
theorem div_l1 {u v v1 v0 u1 Q q1 s : Int} (d : Digit u v v1 v0 u1 Q) (hv : v < 18446744073709551616) (hs : 0 ≤ s) :
    ∀ (n k : Nat) (q r : Int), q * v1 + r = u → Q ≤ q → q ≤ 4294967297 → 0 ≤ r → r < 4294967296 → 4294967296 - r ≤ n * 2147483648 → 2 * n + 2 ≤ k →
    bits_Div64.l1 k v s v1 v0 u1 q1 r u q = some (IntKind.u64.wrap (IntKind.u64.wrap (q1 * 4294967296) + Q), shr .u64 (u * 4294967296 + u1 - Q * v) s) := by
  intro n
  induction n with
  | zero => intro k q r h hQ hq hr0 hr1 hn hk; omega
  | succ n ih =>
    intro k q r h hQ hq hr0 hr1 hn hk
    obtain ⟨k, rfl⟩ : ∃ m, k = m + 2 := ⟨k - 2, by omega⟩
    have hQ0 := d.q0; have h1a := d.v1a; have h1b := d.v1b; have hua := d.u1a; have hub := d.u1b
    have key : ∀ b : Bool, (b = true ↔ (4294967296 ≤ q ∨ 4294967296 * r + u1 < q * v0)) →
        bits_Div64.j4 (k + 1) v s v1 v0 u1 q1 r u q b = some (IntKind.u64.wrap (IntKind.u64.wrap (q1 * 4294967296) + Q), shr .u64 (u * 4294967296 + u1 - Q * v) s) := by
      intro b hb
      simp only [bits_Div64.j4]
      cases b with
      | true =>
        have ht := hb.mp rfl
        have hy := d.yes h ht
        rw [if_pos rfl, u64_id (n := r + v1) (by omega) (by omega), u64_id (n := q - 1) (by omega) (by omega)]
        have h' : (q - 1) * v1 + (r + v1) = u := by rw [Int.sub_mul, Int.one_mul]; omega
        by_cases hr' : 4294967296 ≤ r + v1
        · rw [if_pos hr', if_pos hs, d.out h' hy (by omega) hr', rest_wrap d.qa d.qb hv]
        · rw [if_neg hr']
          exact ih k (q - 1) (r + v1) h' hy (by omega) (by omega) (by omega) (by omega) (by omega)
      | false =>
        have ht : ¬ (4294967296 ≤ q ∨ 4294967296 * r + u1 < q * v0) := fun h => by have := hb.mpr h; cases this
        have e := d.no h hQ (by omega)
        rw [if_neg (by simp), if_pos hs, e, rest_wrap d.qa d.qb hv]
    simp only [bits_Div64.l1]
    by_cases hq' : 4294967296 ≤ q
    · rw [if_pos hq']; exact key true ⟨fun _ => .inl hq', fun _ => rfl⟩
    · rw [if_neg hq']
      have hsm := d.small (q := q) (by omega) (by omega)
      refine key _ ?_
      rw [u64_id (n := q * v0) hsm.1 hsm.2, u64_id (n := 4294967296 * r) (by omega) (by omega), u64_id (n := 4294967296 * r + u1) (by omega) (by omega), decide_eq_true_eq]
      omega
theorem div_j2 {v v1 v0 u1 Q s u2 u0 Q1 : Int} (d1 : Digit u2 v v1 v0 u1 Q1) (d : Digit (u2 * 4294967296 + u1 - Q1 * v) v v1 v0 u0 Q) (hv : v < 18446744073709551616) (hs : 0 ≤ s) (k : Nat) (hk : 7 ≤ k) :
    bits_Div64.j2 k v s v1 v0 u2 u1 u0 Q1 = some (IntKind.u64.wrap (IntKind.u64.wrap (Q1 * 4294967296) + Q), shr .u64 ((u2 * 4294967296 + u1 - Q1 * v) * 4294967296 + u0 - Q * v) s) := by
  obtain ⟨k, rfl⟩ : ∃ m, k = m + 1 := ⟨k - 1, by omega⟩
  have h1 := d.v1a; have h2 := d.v1b; have hua := d.ua; have hub := d.ub
  simp only [bits_Div64.j2]
  rw [if_neg (by omega), rest_wrap d1.qa d1.qb hv]
  generalize hu : u2 * 4294967296 + u1 - Q1 * v = u at *
  obtain ⟨i1, i2, i3, i4, i5⟩ := d.init
  have h0 : 0 ≤ u / v1 := Int.ediv_nonneg hua (by omega)
  rw [Int.tdiv_eq_ediv_of_nonneg hua, u64_id (n := u / v1) h0 (by omega)]
  have e : IntKind.u64.wrap (u - IntKind.u64.wrap (u / v1 * v1)) = u - u / v1 * v1 := by
    have : 0 ≤ u / v1 * v1 := Int.mul_nonneg h0 (by omega)
    rw [u64_id (n := u / v1 * v1) this (by omega), u64_id (by omega) (by omega)]
  rw [e]
  exact div_l1 d hv hs 2 k (u / v1) (u - u / v1 * v1) i3 i1 i2 i4 (by omega) (by omega) (by omega)
theorem div_l0 {u v v1 v0 u1 u0 Q Q0 s : Int} (d : Digit u v v1 v0 u1 Q) (d0 : Digit (u * 4294967296 + u1 - Q * v) v v1 v0 u0 Q0) (hv : v < 18446744073709551616) (hs : 0 ≤ s) :
    ∀ (n k : Nat) (q r : Int), q * v1 + r = u → Q ≤ q → q ≤ 4294967297 → 0 ≤ r → r < 4294967296 → 4294967296 - r ≤ n * 2147483648 → 2 * n + 9 ≤ k →
    bits_Div64.l0 k v s v1 v0 u u1 u0 q r = some (IntKind.u64.wrap (IntKind.u64.wrap (Q * 4294967296) + Q0), shr .u64 ((u * 4294967296 + u1 - Q * v) * 4294967296 + u0 - Q0 * v) s) := by
  intro n
  induction n with
  | zero => intro k q r h hQ hq hr0 hr1 hn hk; omega
  | succ n ih =>
    intro k q r h hQ hq hr0 hr1 hn hk
    obtain ⟨k, rfl⟩ : ∃ m, k = m + 2 := ⟨k - 2, by omega⟩
    have hQ0 := d.q0; have h1a := d.v1a; have h1b := d.v1b; have hua := d.u1a; have hub := d.u1b
    have key : ∀ b : Bool, (b = true ↔ (4294967296 ≤ q ∨ 4294967296 * r + u1 < q * v0)) →
        bits_Div64.j1 (k + 1) v s v1 v0 u u1 u0 q r b = some (IntKind.u64.wrap (IntKind.u64.wrap (Q * 4294967296) + Q0), shr .u64 ((u * 4294967296 + u1 - Q * v) * 4294967296 + u0 - Q0 * v) s) := by
      intro b hb
      simp only [bits_Div64.j1]
      cases b with
      | true =>
        have ht := hb.mp rfl
        have hy := d.yes h ht
        rw [if_pos rfl, u64_id (n := r + v1) (by omega) (by omega), u64_id (n := q - 1) (by omega) (by omega)]
        have h' : (q - 1) * v1 + (r + v1) = u := by rw [Int.sub_mul, Int.one_mul]; omega
        by_cases hr' : 4294967296 ≤ r + v1
        · rw [if_pos hr', d.out h' hy (by omega) hr']
          exact div_j2 d d0 hv hs k (by omega)
        · rw [if_neg hr']
          exact ih k (q - 1) (r + v1) h' hy (by omega) (by omega) (by omega) (by omega) (by omega)
      | false =>
        have ht : ¬ (4294967296 ≤ q ∨ 4294967296 * r + u1 < q * v0) := fun h => by have := hb.mpr h; cases this
        have e := d.no h hQ (by omega)
        rw [if_neg (by simp), e]
        exact div_j2 d d0 hv hs k (by omega)
    simp only [bits_Div64.l0]
    by_cases hq' : 4294967296 ≤ q
    · rw [if_pos hq']; exact key true ⟨fun _ => .inl hq', fun _ => rfl⟩
    · rw [if_neg hq']
      have hsm := d.small (q := q) (by omega) (by omega)
      refine key _ ?_
      rw [u64_id (n := q * v0) hsm.1 hsm.2, u64_id (n := 4294967296 * r) (by omega) (by omega), u64_id (n := 4294967296 * r + u1) (by omega) (by omega), decide_eq_true_eq]
      omega
theorem bitLen_low : ∀ (f x : Nat), x ≠ 0 → x < 2 ^ f → 2 ^ (Lib.bitLenAux f x - 1) ≤ x ∧ x < 2 ^ Lib.bitLenAux f x ∧ 1 ≤ Lib.bitLenAux f x ∧ Lib.bitLenAux f x ≤ f := by
  intro f
  induction f with
  | zero => intro x h0 h1; simp at h1; omega
  | succ f ih =>
    intro x h0 h1
    simp only [Lib.bitLenAux]
    rw [if_neg h0]
    by_cases hx : x / 2 = 0
    · have : x = 1 := by omega
      subst this
      have : Lib.bitLenAux f (1 / 2) = 0 := by cases f <;> simp [Lib.bitLenAux]
      rw [this]; simp
    · obtain ⟨a, b, c, e⟩ := ih (x / 2) hx (by rw [Nat.pow_succ] at h1; omega)
      have e1 : 1 + Lib.bitLenAux f (x / 2) - 1 = (Lib.bitLenAux f (x / 2) - 1) + 1 := by omega
      refine ⟨?_, ?_, by omega, by omega⟩
      · rw [e1, Nat.pow_succ]; omega
      · rw [Nat.add_comm 1, Nat.pow_succ]; omega
theorem bitLen_bounds (x : Nat) (h0 : x ≠ 0) (h1 : x < 18446744073709551616) : 2 ^ (Lib.bitLen x - 1) ≤ x ∧ x < 2 ^ Lib.bitLen x ∧ 1 ≤ Lib.bitLen x ∧ Lib.bitLen x ≤ 64 :=
  bitLen_low 64 x h0 h1
theorem or_add (p : Nat) (a b : Nat) (hb : b < 2 ^ p) : (a * 2 ^ p) ||| b = a * 2 ^ p + b := by
  rw [Nat.mul_comm, Nat.two_pow_add_eq_or_of_lt hb]
/-- The shift: how far, what the numbers become. -/
theorem div_setup (hi lo y : Nat) (hy : hi < y) (hy1 : y < 18446744073709551616) (hl : lo < 18446744073709551616) :
    ∃ s : Nat, s < 64 ∧ 64 - Lib.bitLen y = s ∧ 9223372036854775808 ≤ y * 2 ^ s ∧ y * 2 ^ s < 18446744073709551616 ∧ hi * 2 ^ s < 18446744073709551616 ∧
      lo / 2 ^ (64 - s) < 2 ^ s ∧ (hi * 18446744073709551616 + lo) * 2 ^ s = (hi * 2 ^ s + lo / 2 ^ (64 - s)) * 18446744073709551616 + lo * 2 ^ s % 18446744073709551616 := by
  obtain ⟨h1, h2, h3, h4⟩ := bitLen_bounds y (by omega) hy1
  generalize hL : Lib.bitLen y = L at *
  refine ⟨64 - L, by omega, rfl, ?_, ?_, ?_, ?_, ?_⟩
  · have : (9223372036854775808 : Nat) = 2 ^ (L - 1) * 2 ^ (64 - L) := by rw [← Nat.pow_add, show L - 1 + (64 - L) = 63 by omega]
    rw [this]; exact Nat.mul_le_mul_right _ h1
  · have : (18446744073709551616 : Nat) = 2 ^ L * 2 ^ (64 - L) := by rw [← Nat.pow_add, show L + (64 - L) = 64 by omega]
    rw [this]; exact Nat.mul_lt_mul_of_pos_right h2 (Nat.two_pow_pos _)
  · have : (18446744073709551616 : Nat) = 2 ^ L * 2 ^ (64 - L) := by rw [← Nat.pow_add, show L + (64 - L) = 64 by omega]
    rw [this]; exact Nat.mul_lt_mul_of_pos_right (by omega) (Nat.two_pow_pos _)
  · rw [show 64 - (64 - L) = L by omega, Nat.div_lt_iff_lt_mul (Nat.two_pow_pos _), ← Nat.pow_add, show 64 - L + L = 64 by omega]; exact hl
  · rw [show 64 - (64 - L) = L by omega]
    have hp : (18446744073709551616 : Nat) = 2 ^ L * 2 ^ (64 - L) := by rw [← Nat.pow_add, show L + (64 - L) = 64 by omega]
    have h := Nat.div_add_mod (lo * 2 ^ (64 - L)) 18446744073709551616
    have e : lo * 2 ^ (64 - L) / 18446744073709551616 = lo / 2 ^ L := by
      rw [hp]; exact Nat.mul_div_mul_right _ _ (Nat.two_pow_pos _)
    rw [e] at h
    rw [Nat.add_mul, Nat.add_mul, Nat.mul_assoc, Nat.mul_comm 18446744073709551616 (2 ^ (64 - L)), ← Nat.mul_assoc]
    omega
theorem shl_nat (x s : Nat) (hs : s < 64) : shl .u64 (x : Int) (s : Int) = ((x * 2 ^ s % 18446744073709551616 : Nat) : Int) := by
  unfold shl
  rw [IntKind.wrap_u64, show min ((s : Int).toNat) (IntKind.u64.bits) = s by simp [IntKind.bits]; omega]
  simp
theorem shr_nat (x s : Nat) (hs : s ≤ 64) : shr .u64 (x : Int) (s : Int) = ((x / 2 ^ s : Nat) : Int) := by
  unfold shr
  rw [show min ((s : Int).toNat) (IntKind.u64.bits) = s by simp [IntKind.bits]; omega]
  simp
/-- A digit, out of the division itself. -/
theorem Digit.of {u v v1 v0 u1 : Int} (hv : v = v1 * 4294967296 + v0) (v0a : 0 ≤ v0) (v0b : v0 < 4294967296) (v1a : 2147483648 ≤ v1) (v1b : v1 < 4294967296) (ua : 0 ≤ u) (ub : u < v) (u1a : 0 ≤ u1) (u1b : u1 < 4294967296) :
    Digit u v v1 v0 u1 ((u * 4294967296 + u1) / v) := by
  have h := Int.mul_ediv_add_emod (u * 4294967296 + u1) v
  have hm := Int.emod_nonneg (u * 4294967296 + u1) (show v ≠ 0 by omega)
  have hl := Int.emod_lt_of_pos (u * 4294967296 + u1) (show 0 < v by omega)
  rw [Int.mul_comm] at h
  exact ⟨hv, v0a, v0b, v1a, v1b, ua, ub, u1a, u1b, by omega, by omega⟩
/-- math/bits.Div64: the quotient, and what is left over. -/
theorem div64_eq (hi lo y : Nat) (hy : hi < y) (hy1 : y < 18446744073709551616) (hl : lo < 18446744073709551616) (k : Nat) (hk : 20 ≤ k) :
    bits_Div64.f k hi lo y = some ((((hi * 18446744073709551616 + lo) / y : Nat) : Int), (((hi * 18446744073709551616 + lo) % y : Nat) : Int)) := by
  unfold bits_Div64.f
  rw [if_neg (by omega), if_neg (by omega)]
  by_cases h0 : hi = 0
  · subst h0
    rw [if_pos (show ((0 : Nat) : Int) = 0 from rfl), Int.tdiv_eq_ediv_of_nonneg (by omega), Int.tmod_eq_emod_of_nonneg (by omega)]
    have : lo / y ≤ lo := Nat.div_le_self _ _
    rw [Nat.zero_mul, Nat.zero_add, ← Int.natCast_ediv, ← Int.natCast_emod]
    generalize lo / y = z at *
    rw [u64_id (by omega) (by omega)]
  · rw [if_neg (by omega)]
    obtain ⟨s, hs, hL, a1, a2, a3, a4, a5⟩ := div_setup hi lo y hy hy1 hl
    obtain ⟨_, _, l1, l2⟩ := bitLen_bounds y (by omega) hy1
    have e0 : bits_LeadingZeros64.f (y : Int) = some (s : Int) := by
      unfold bits_LeadingZeros64.f bits_Len64.f
      rw [if_pos (by omega)]
      simp only [Option.bind_some, Int.toNat_natCast]
      rw [w64_id (by omega) (by omega)]
      congr 1; omega
    rw [e0]
    simp only [Option.bind_some]
    rw [u64_id (n := (s : Int)) (by omega) (by omega), if_pos (by omega), u64_id (n := 64 - (s : Int)) (by omega) (by omega), if_pos (by omega)]
    have e1 : (64 : Int) - (s : Int) = ((64 - s : Nat) : Int) := by omega
    rw [e1, shl_nat y s hs, shl_nat hi s hs, shl_nat lo s hs, shr_nat lo (64 - s) (by omega), Nat.mod_eq_of_lt a2, Nat.mod_eq_of_lt a3]
    rw [u64_or_nat _ _ a3 (by have : 2 ^ s ≤ 2 ^ 63 := Nat.pow_le_pow_right (by omega) (by omega); omega), or_add s hi _ a4]
    generalize hV : y * 2 ^ s = V at *
    generalize hU : hi * 2 ^ s + lo / 2 ^ (64 - s) = U at *
    generalize hR : lo * 2 ^ s % 18446744073709551616 = R at *
    have hR1 : R < 18446744073709551616 := by omega
    have hUV : U < V := by
      have h1 : (hi + 1) * 2 ^ s ≤ V := by rw [← hV]; exact Nat.mul_le_mul_right _ hy
      rw [Nat.add_mul, Nat.one_mul] at h1
      omega
    rw [and_low32 _ (by omega) (by omega), and_low32 _ (by omega) (by omega)]
    rw [if_neg (by omega)]
    have d1 := Digit.of (u := U) (v := V) (v1 := (V : Int) / 4294967296) (v0 := (V : Int) % 4294967296) (u1 := (R : Int) / 4294967296) (by omega) (by omega) (by omega) (by omega) (by omega) (by omega) (by omega) (by omega) (by omega)
    generalize hQ1 : ((U : Int) * 4294967296 + (R : Int) / 4294967296) / (V : Int) = Q1 at *
    have b1 := d1.qa
    have b2 := d1.qb
    have d0 := Digit.of (u := (U : Int) * 4294967296 + (R : Int) / 4294967296 - Q1 * V) (v := V) (v1 := (V : Int) / 4294967296) (v0 := (V : Int) % 4294967296) (u1 := (R : Int) % 4294967296) (by omega) (by omega) (by omega) (by omega) (by omega) (by omega) (by omega) (by omega) (by omega)
    generalize hQ0 : (((U : Int) * 4294967296 + (R : Int) / 4294967296 - Q1 * V) * 4294967296 + (R : Int) % 4294967296) / (V : Int) = Q0 at *
    obtain ⟨i1, i2, i3, i4, i5⟩ := d1.init
    have hq := Int.ediv_nonneg (a := (U : Int)) (b := (V : Int) / 4294967296) (by omega) (by omega)
    have hq2 := Int.mul_nonneg hq (show 0 ≤ (V : Int) / 4294967296 by omega)
    rw [Int.tdiv_eq_ediv_of_nonneg (by omega), u64_id (n := (U : Int) / ((V : Int) / 4294967296)) hq (by omega),
      u64_id (n := (U : Int) / ((V : Int) / 4294967296) * ((V : Int) / 4294967296)) hq2 (by omega), u64_id (n := (U : Int) - (U : Int) / ((V : Int) / 4294967296) * ((V : Int) / 4294967296)) (by omega) (by omega)]
    rw [div_l0 d1 d0 (by omega) (by omega) 2 k _ _ i3 i1 i2 i4 (by omega) (by omega) (by omega)]
    have c1 := d0.qa
    have c2 := d0.qb
    have c3 := d1.q0
    have c4 := d1.qB
    have c5 := d0.q0
    have c6 := d0.qB
    rw [u64_id (n := Q1 * 4294967296) (by omega) (by omega), u64_id (by omega) (by omega)]
    -- what it comes to
    obtain ⟨q, hq'⟩ := Int.eq_ofNat_of_zero_le (show 0 ≤ Q1 * 4294967296 + Q0 by omega)
    obtain ⟨r, hr'⟩ := Int.eq_ofNat_of_zero_le (show 0 ≤ ((U : Int) * 4294967296 + (R : Int) / 4294967296 - Q1 * V) * 4294967296 + (R : Int) % 4294967296 - Q0 * V by omega)
    rw [hr', shr_nat r s (by omega), hq']
    have hrV : r < V := by omega
    have hsum : (hi * 18446744073709551616 + lo) * 2 ^ s = q * V + r := by
      rw [a5]
      have hqV : (q : Int) * V = Q1 * V * 4294967296 + Q0 * V := by
        rw [← hq', Int.add_mul, Int.mul_assoc, Int.mul_comm 4294967296, ← Int.mul_assoc]
      have : ((U * 18446744073709551616 + R : Nat) : Int) = ((q * V + r : Nat) : Int) := by
        rw [Int.natCast_add, Int.natCast_add, Int.natCast_mul q V, hqV]
        omega
      exact Int.natCast_inj.mp this
    obtain ⟨M, hM⟩ : ∃ M, M = hi * 18446744073709551616 + lo := ⟨_, rfl⟩
    rw [← hM] at hsum ⊢
    have hp := Nat.two_pow_pos s
    have hdiv : M / y = q := by
      have : M * 2 ^ s / (y * 2 ^ s) = q := by
        rw [hsum, hV]
        rw [Nat.mul_comm q V, Nat.mul_add_div (by omega), Nat.div_eq_of_lt hrV]; rfl
      rwa [Nat.mul_div_mul_right _ _ hp] at this
    have hmod : M % y = r / 2 ^ s := by
      have : M * 2 ^ s % (y * 2 ^ s) = r := by
        rw [hsum, hV, Nat.mul_comm q V, Nat.mul_add_mod, Nat.mod_eq_of_lt hrV]
      rw [Nat.mul_mod_mul_right] at this
      rw [← this, Nat.mul_div_cancel _ hp]
    rw [hdiv, hmod]
end Go.Proofs.Ytmdfcinjmlagcaa.P
namespace Go.Proofs.Ytmdfcinjmlagcaa.P
open Go.RowKit Go.Proofs.YtmdfcinjmlagcaaW.PrintWords Go.Proofs.YtmdfcinjmlagcaaW.PrintLast Go.Proofs.YtmdfcinjmlagcaaW.PrintMore
/-- Is it a number of 64 bits? -/
def I64 (x : Int) : Prop := -9223372036854775808 ≤ x ∧ x ≤ 9223372036854775807
instance (x : Int) : Decidable (I64 x) := by unfold I64; infer_instance
/-- A number and true, or 0 and false. -/
def num (x : Int) : Int × Bool := if I64 x then (x, true) else (0, false)
theorem num_yes {x : Int} (h : I64 x) : num x = (x, true) := by unfold num; rw [if_pos h]
theorem num_no {x : Int} (h : ¬ I64 x) : num x = (0, false) := by unfold num; rw [if_neg h]
/-- The floor of a quotient. -/
def fl (p c : Int) : Int := if 0 < c then p / c else (-p) / (-c)
theorem fl_spec (p : Int) {c : Int} (hc : c ≠ 0) : ∃ m, fl p c * c + m = p ∧ (0 < c → 0 ≤ m ∧ m < c) ∧ (c < 0 → c < m ∧ m ≤ 0) := by
  unfold fl
  by_cases h : 0 < c
  · rw [if_pos h]
    refine ⟨p % c, Int.ediv_mul_add_emod p c, fun _ => ⟨Int.emod_nonneg _ hc, Int.emod_lt_of_pos _ h⟩, fun h' => by omega⟩
  · rw [if_neg h]
    have e := Int.ediv_mul_add_emod (-p) (-c)
    rw [Int.mul_neg] at e
    have h1 := Int.emod_nonneg (-p) (show -c ≠ 0 by omega)
    have h2 := Int.emod_lt_of_pos (-p) (show 0 < -c by omega)
    exact ⟨-((-p) % (-c)), by omega, fun h' => by omega, fun _ => by omega⟩
theorem fl_unique {p c f m : Int} (hc : c ≠ 0) (h : f * c + m = p) (h1 : 0 < c → 0 ≤ m ∧ m < c) (h2 : c < 0 → c < m ∧ m ≤ 0) : fl p c = f := by
  obtain ⟨m', e, e1, e2⟩ := fl_spec p hc
  have key : (fl p c - f) * c = m - m' := by rw [Int.sub_mul]; omega
  rcases Int.lt_or_gt_of_ne hc with hn | hp
  · have a := e2 hn; have b := h2 hn
    have k1 : (fl p c - f) * c < (-1) * c := by omega
    have k2 : 1 * c < (fl p c - f) * c := by omega
    have l1 : -1 < fl p c - f := by
      rcases Int.lt_or_le (-1) (fl p c - f) with h | h
      · exact h
      · have := Int.mul_le_mul_of_nonpos_right h (Int.le_of_lt hn); omega
    have l2 : fl p c - f < 1 := by
      rcases Int.lt_or_le (fl p c - f) 1 with h | h
      · exact h
      · have := Int.mul_le_mul_of_nonpos_right h (Int.le_of_lt hn); omega
    omega
  · have a := e1 hp; have b := h1 hp
    have l1 : -1 < fl p c - f := lt_of_mul hp (by omega)
    have l2 : fl p c - f < 1 := lt_of_mul hp (by omega)
    omega
theorem mul_bound {a b : Int} {L M : Nat} (ha : a.natAbs ≤ L) (hb : b.natAbs ≤ M) : (a * b).natAbs ≤ L * M := by
  rw [Int.natAbs_mul]; exact Nat.mul_le_mul ha hb
theorem prod_bound {a b : Int} (ha : I64 a) (hb : I64 b) : (a * b).natAbs ≤ 85070591730234615865843651857942052864 := by
  have := mul_bound (a := a) (b := b) (L := 9223372036854775808) (M := 9223372036854775808) (by unfold I64 at ha; omega) (by unfold I64 at hb; omega)
  exact this
theorem times_eq {a b : Int} (ha : I64 a) (hb : I64 b) : fix_times.f a b = some (a * b / 18446744073709551616, a * b % 18446744073709551616) := by
  have hP := prod_bound ha hb
  unfold I64 at ha hb
  have key : ∀ (A B : Int), (A = a ∨ A = a + 18446744073709551616) → (B = b ∨ B = b + 18446744073709551616) → 0 ≤ A → A < 18446744073709551616 → 0 ≤ B → B < 18446744073709551616 →
      A * B / 18446744073709551616 = a * b / 18446744073709551616 + (if A = a then 0 else b) + (if B = b then 0 else a) + (if A = a ∨ B = b then 0 else 18446744073709551616) ∧ A * B % 18446744073709551616 = a * b % 18446744073709551616 := by
    intro A B h1 h2 _ _ _ _
    rcases h1 with rfl | rfl <;> rcases h2 with rfl | rfl
    · simp
    · rw [Int.mul_add, if_pos rfl, if_neg (by omega), if_pos (by simp)]
      generalize A * b = z at *
      omega
    · rw [Int.add_mul, if_neg (by omega), if_pos rfl, if_pos (by simp)]
      generalize a * B = z at *
      omega
    · rw [Int.add_mul, Int.mul_add, Int.mul_add, if_neg (by omega), if_neg (by omega), if_neg (by omega)]
      generalize a * b = z at *
      omega
  unfold fix_times.f bits_Mul64.f
  have wa : IntKind.u64.wrap a = a ∨ IntKind.u64.wrap a = a + 18446744073709551616 := by rw [IntKind.wrap_u64]; omega
  have wb : IntKind.u64.wrap b = b ∨ IntKind.u64.wrap b = b + 18446744073709551616 := by rw [IntKind.wrap_u64]; omega
  have ra : 0 ≤ IntKind.u64.wrap a ∧ IntKind.u64.wrap a < 18446744073709551616 := by rw [IntKind.wrap_u64]; omega
  have rb : 0 ≤ IntKind.u64.wrap b ∧ IntKind.u64.wrap b < 18446744073709551616 := by rw [IntKind.wrap_u64]; omega
  generalize hA : IntKind.u64.wrap a = A at *
  generalize hB : IntKind.u64.wrap b = B at *
  obtain ⟨k1, k2⟩ := key A B wa wb ra.1 ra.2 rb.1 rb.2
  rw [if_pos (by omega)]
  simp only [Option.bind_some]
  rw [k1, k2]
  generalize a * b = P at *
  have hq : -4611686018427387904 ≤ P / 18446744073709551616 ∧ P / 18446744073709551616 ≤ 4611686018427387904 := by omega
  generalize hr : P % 18446744073709551616 = r at *
  generalize P / 18446744073709551616 = q at *
  clear key k1 k2
  by_cases h1 : a < 0
  · have : A = a + 18446744073709551616 := by omega
    rw [if_pos h1, if_neg (show ¬ A = a by omega)]
    by_cases h2 : b < 0
    · rw [if_pos h2, if_neg (show ¬ B = b by omega), if_neg (by omega)]
      congr 2; simp only [IntKind.wrap_u64, wrap64]; omega
    · rw [if_neg h2, if_pos (show B = b by omega), if_pos (by omega)]
      congr 2; simp only [IntKind.wrap_u64, wrap64]; omega
  · rw [if_neg h1, if_pos (show A = a by omega)]
    by_cases h2 : b < 0
    · rw [if_pos h2, if_neg (show ¬ B = b by omega), if_pos (by omega)]
      congr 2; simp only [IntKind.wrap_u64, wrap64]; omega
    · rw [if_neg h2, if_pos (show B = b by omega), if_pos (by omega)]
      congr 2; simp only [wrap64]; omega
theorem abs_eq {P : Int} (hP : P.natAbs ≤ 85070591730234615865843651857942052864) :
    fix_wide_abs.f (P / 18446744073709551616) (P % 18446744073709551616) = some (((P.natAbs / 18446744073709551616 : Nat) : Int), ((P.natAbs % 18446744073709551616 : Nat) : Int), decide (P < 0)) := by
  unfold fix_wide_abs.f
  by_cases h : P < 0
  · rw [if_neg (by omega), decide_eq_true h]
    have e1 : sub64d 0 (P % 18446744073709551616) 0 = ((P.natAbs % 18446744073709551616 : Nat) : Int) := by
      unfold sub64d; simp only [Int.toNat_zero]; congr 1; omega
    have e2 : sub64b 0 (P % 18446744073709551616) 0 = if P % 18446744073709551616 = 0 then 0 else 1 := by
      unfold sub64b; simp only [Int.toNat_zero]
      by_cases h0 : P % 18446744073709551616 = 0
      · rw [if_pos h0, if_neg (by omega)]; rfl
      · rw [if_neg h0, if_pos (by omega)]; rfl
    rw [e1, e2]
    have e3 : sub64d 0 (IntKind.u64.wrap (P / 18446744073709551616)) (if P % 18446744073709551616 = 0 then 0 else 1) = ((P.natAbs / 18446744073709551616 : Nat) : Int) := by
      rw [IntKind.wrap_u64]
      unfold sub64d; simp only [Int.toNat_zero]
      by_cases h0 : P % 18446744073709551616 = 0
      · rw [if_pos h0]; simp only [Int.toNat_zero]; congr 1; omega
      · rw [if_neg h0]; simp only [Int.toNat_one]; congr 1; omega
    rw [e3]
  · rw [if_pos (by omega), decide_eq_false h, u64_id (by omega) (by omega)]
    congr 2
    · omega
    · congr 1; omega
theorem size_eq {a : Int} (ha : I64 a) : fix_size.f a = some (a.natAbs : Int) := by
  unfold fix_size.f; unfold I64 at ha
  by_cases h : a < 0
  · rw [if_pos h]; congr 1; simp only [IntKind.wrap_u64]; omega
  · rw [if_neg h]; congr 1; simp only [IntKind.wrap_u64]; omega
/-- The answer, out of the sizes' quotient. -/
theorem fl_abs {P c : Int} (hc : c ≠ 0) :
    fl P c = if P < 0 ↔ c < 0 then ((P.natAbs / c.natAbs : Nat) : Int) else if P.natAbs % c.natAbs = 0 then -((P.natAbs / c.natAbs : Nat) : Int) else -((P.natAbs / c.natAbs : Nat) : Int) - 1 := by
  have hd := Nat.div_add_mod P.natAbs c.natAbs
  have hl := Nat.mod_lt P.natAbs (show 0 < c.natAbs by omega)
  generalize hq : P.natAbs / c.natAbs = q at *
  generalize hr : P.natAbs % c.natAbs = r at *
  have hd' : ((c.natAbs : Int)) * q + r = (P.natAbs : Int) := by rw [← Int.natCast_mul]; omega
  by_cases hn : c < 0
  · have ec : (c.natAbs : Int) = -c := by omega
    rw [ec, Int.neg_mul] at hd'
    by_cases hP : P < 0
    · rw [if_pos (by omega)]
      exact fl_unique (m := -r) hc (by rw [Int.mul_comm]; omega) (fun h => by omega) (fun _ => by omega)
    · rw [if_neg (by omega)]
      by_cases h0 : r = 0
      · rw [if_pos h0]
        exact fl_unique (m := 0) hc (by rw [Int.neg_mul, Int.mul_comm]; omega) (fun h => by omega) (fun _ => by omega)
      · rw [if_neg h0]
        exact fl_unique (m := c + r) hc (by rw [Int.sub_mul, Int.neg_mul, Int.one_mul, Int.mul_comm]; omega) (fun h => by omega) (fun _ => by omega)
  · have ec : (c.natAbs : Int) = c := by omega
    rw [ec] at hd'
    by_cases hP : P < 0
    · rw [if_neg (by omega)]
      by_cases h0 : r = 0
      · rw [if_pos h0]
        exact fl_unique (m := 0) hc (by rw [Int.neg_mul, Int.mul_comm]; omega) (fun _ => by omega) (fun h => by omega)
      · rw [if_neg h0]
        exact fl_unique (m := c - r) hc (by rw [Int.sub_mul, Int.neg_mul, Int.one_mul, Int.mul_comm]; omega) (fun _ => by omega) (fun h => by omega)
    · rw [if_pos (by omega)]
      exact fl_unique (m := r) hc (by rw [Int.mul_comm]; omega) (fun _ => by omega) (fun h => by omega)
theorem narrowed_f (q : Int) : fix_narrowed.f q false = some (decide (q ≤ 9223372036854775807)) := by
  simp [fix_narrowed.f]
theorem narrowed_t (q : Int) : fix_narrowed.f q true = some (decide (q ≤ 9223372036854775808)) := by
  simp only [fix_narrowed.f, if_true]
theorem up_wrap {q : Nat} (h1 : ¬ IntKind.u64.wrap ((q : Int) + 1) = 0) (hq : q < 18446744073709551616) : IntKind.u64.wrap ((q : Int) + 1) = q + 1 := by
  rw [IntKind.wrap_u64] at h1 ⊢; omega
theorem up_over {q : Nat} (h1 : IntKind.u64.wrap ((q : Int) + 1) = 0) : ¬ I64 (-(q : Int) - 1) := by
  rw [IntKind.wrap_u64] at h1; unfold I64; omega
theorem down_wrap {q : Int} (h0 : 0 ≤ q) (h : q ≤ 9223372036854775808) : wrap64 (IntKind.u64.wrap (-q)) = -q := by
  simp only [IntKind.wrap_u64, wrap64]; omega
theorem muldiv_t (q r : Int) (k : Nat) : fix_MulDiv.j0 (k + 1) q r true = if q ≤ 9223372036854775807 then some (wrap64 q, true) else some (0, false) := by
  simp [fix_MulDiv.j0, narrowed_f]
theorem muldiv_f0 (q : Int) (k : Nat) : fix_MulDiv.j0 (k + 1) q 0 false = if q ≤ 9223372036854775808 then some (wrap64 (IntKind.u64.wrap (-q)), true) else some (0, false) := by
  simp [fix_MulDiv.j0, narrowed_t]
theorem muldiv_f (q r : Int) (h : 0 < r) (k : Nat) : fix_MulDiv.j0 (k + 1) q r false = if IntKind.u64.wrap (q + 1) = 0 then some (0, false) else if IntKind.u64.wrap (q + 1) ≤ 9223372036854775808 then some (wrap64 (IntKind.u64.wrap (-(IntKind.u64.wrap (q + 1)))), true) else some (0, false) := by
  simp only [fix_MulDiv.j0, narrowed_t, Option.bind_some, decide_eq_true_eq]
  rw [if_neg (by simp), if_pos h]
theorem muldiv_up (q r : Nat) (hr : 0 < r) (hq : q < 18446744073709551616) (k : Nat) : fix_MulDiv.j0 (k + 1) q r false = some (num (-(q : Int) - 1)) := by
  rw [muldiv_f _ _ (by omega)]
  by_cases h1 : IntKind.u64.wrap ((q : Int) + 1) = 0
  · rw [if_pos h1, num_no (up_over h1)]
  · rw [if_neg h1]
    have e := up_wrap h1 hq
    generalize IntKind.u64.wrap ((q : Int) + 1) = z at *
    subst e
    by_cases h : (q : Int) + 1 ≤ 9223372036854775808
    · rw [if_pos h, down_wrap (by omega) h, num_yes (by unfold I64; omega), Int.neg_add]; rfl
    · rw [if_neg h, num_no (by unfold I64; omega)]
theorem muldiv_j0 (q r : Nat) (hq : q < 18446744073709551616) (b : Bool) (k : Nat) :
    fix_MulDiv.j0 (k + 1) q r b = some (num (if b then (q : Int) else if r = 0 then -(q : Int) else -(q : Int) - 1)) := by
  cases b with
  | true =>
    rw [muldiv_t, if_pos rfl]
    by_cases h : (q : Int) ≤ 9223372036854775807
    · rw [if_pos h, w64_id (by omega) (by omega), num_yes (by unfold I64; omega)]
    · rw [if_neg h, num_no (by unfold I64; omega)]
  | false =>
    rw [if_neg (show ¬ (false = true) by simp)]
    by_cases h0 : r = 0
    · subst h0
      rw [if_pos rfl, show ((0 : Nat) : Int) = 0 from rfl, muldiv_f0]
      by_cases h : (q : Int) ≤ 9223372036854775808
      · rw [if_pos h, down_wrap (by omega) h, num_yes (by unfold I64; omega)]
      · rw [if_neg h, num_no (by unfold I64; omega)]
    · rw [if_neg h0, muldiv_up q r (by omega) hq]
/-- The floor of a product by a number. -/
def md (a b c : Int) : Int × Bool := if c = 0 then (0, false) else num (fl (a * b) c)
theorem mulDiv_eq {a b c : Int} (ha : I64 a) (hb : I64 b) (hc : I64 c) (k : Nat) (hk : 20 ≤ k) : fix_MulDiv.f k a b c = some (md a b c) := by
  unfold fix_MulDiv.f md
  by_cases h0 : c = 0
  · rw [if_pos h0, if_pos h0]
  · rw [if_neg h0, if_neg h0, times_eq ha hb]
    simp only [Option.bind_some]
    have hP := prod_bound ha hb
    generalize a * b = P at *
    rw [abs_eq hP]
    simp only [Option.bind_some]
    rw [size_eq hc]
    simp only [Option.bind_some]
    unfold I64 at hc
    have hfa := fl_abs (P := P) h0
    have hd := Nat.div_add_mod P.natAbs c.natAbs
    have hl := Nat.mod_lt P.natAbs (show 0 < c.natAbs by omega)
    by_cases hbig : ((P.natAbs / 18446744073709551616 : Nat) : Int) ≥ (c.natAbs : Int)
    · rw [if_pos hbig]
      have h1 : c.natAbs ≤ P.natAbs / 18446744073709551616 := by omega
      have h2 : 18446744073709551616 ≤ P.natAbs / c.natAbs := by
        rw [Nat.le_div_iff_mul_le (by omega), Nat.mul_comm]
        exact (Nat.le_div_iff_mul_le (by omega)).mp h1
      have : ¬ I64 (fl P c) := by
        rw [hfa]; unfold I64; split
        · omega
        · split <;> omega
      unfold num; rw [if_neg this]
    · rw [if_neg hbig]
      have hm : P.natAbs = P.natAbs / 18446744073709551616 * 18446744073709551616 + P.natAbs % 18446744073709551616 := by omega
      rw [div64_eq _ _ _ (by omega) (by omega) (by omega) k hk, ← hm]
      simp only [Option.bind_some]
      have hq : P.natAbs / c.natAbs < 18446744073709551616 := by
        rw [Nat.div_lt_iff_lt_mul (by omega)]
        have : P.natAbs / 18446744073709551616 < c.natAbs := by omega
        have := (Nat.div_lt_iff_lt_mul (show 0 < 18446744073709551616 by omega)).mp this
        rwa [Nat.mul_comm] at this
      obtain ⟨k, rfl⟩ : ∃ m, k = m + 1 := ⟨k - 1, by omega⟩
      rw [hfa]
      generalize P.natAbs / c.natAbs = q at *
      generalize P.natAbs % c.natAbs = r at *
      by_cases hs : P < 0 ↔ c < 0
      · rw [if_pos hs, if_pos (by simp [hs]), muldiv_j0 q r hq]; rfl
      · have hbe : (decide (P < 0) == decide (c < 0)) = false := by
          by_cases x : P < 0 <;> by_cases y : c < 0 <;> simp [x, y] at hs ⊢
        rw [if_neg hs, if_neg (by rw [hbe]; simp)]
        by_cases hq0 : (q : Int) = 0
        · rw [if_pos hq0, muldiv_j0 q r hq]
          by_cases hr0 : r = 0
          · have : ((r : Int) == 0) = true := by simp [hr0]
            rw [this, if_pos hr0]; simp; congr 1; omega
          · have : ((r : Int) == 0) = false := by simp [hr0]
            rw [this, if_neg hr0]; simp
        · rw [if_neg hq0, muldiv_j0 q r hq]; simp
theorem floor_eq {a b : Int} (ha : I64 a) (hb : I64 b) (k : Nat) (hk : 20 ≤ k) : fix_Floor.f k a b = some (md a 1 b) := by
  unfold fix_Floor.f
  rw [mulDiv_eq ha (by unfold I64; omega) hb k hk]
  rfl
theorem fl_over {a b : Int} (ha : I64 a) (hb : I64 b) (h0 : b ≠ 0) (h : ¬ I64 (fl a b)) : a = -9223372036854775808 ∧ b = -1 := by
  rw [fl_abs h0] at h
  unfold I64 at *
  have hd := Nat.div_add_mod a.natAbs b.natAbs
  have hle := Nat.div_le_self a.natAbs b.natAbs
  have hl := Nat.mod_lt a.natAbs (show 0 < b.natAbs by omega)
  by_cases h1 : b.natAbs = 1
  · rw [h1, Nat.div_one, Nat.mod_one] at h
    simp only [if_true] at h
    split at h <;> omega
  · have h2 : a.natAbs / b.natAbs ≤ a.natAbs / 2 := Nat.div_le_div_left (by omega) (by omega)
    generalize a.natAbs / b.natAbs = q at *
    split at h
    · omega
    · split at h <;> omega
end Go.Proofs.Ytmdfcinjmlagcaa.P
namespace Go.Proofs.Ytmdfcinjmlagcaa.P
open Go.RowKit Go.Proofs.YtmdfcinjmlagcaaW.PrintWords Go.Proofs.YtmdfcinjmlagcaaW.PrintLast Go.Proofs.YtmdfcinjmlagcaaW.PrintMore
/-- The root of a natural number. -/
def isq : Nat → Nat
  | 0 => 0
  | n + 1 => if (isq n + 1) * (isq n + 1) ≤ n + 1 then isq n + 1 else isq n
theorem isq_spec : ∀ n, isq n * isq n ≤ n ∧ n < (isq n + 1) * (isq n + 1) := by
  intro n
  induction n with
  | zero => simp [isq]
  | succ n ih =>
    simp only [isq]
    split
    · rename_i h
      refine ⟨h, ?_⟩
      have e : (isq n + 1 + 1) * (isq n + 1 + 1) = (isq n + 1) * (isq n + 1) + 2 * (isq n + 1) + 1 := by
        rw [Nat.add_mul, Nat.mul_add]; omega
      rw [e]; omega
    · rename_i h
      exact ⟨by omega, by omega⟩
theorem sq_lt {a b : Nat} (h : a * a < b * b) : a < b := by
  rcases Nat.lt_or_ge a b with h1 | h1
  · exact h1
  · have := Nat.mul_le_mul h1 h1; omega
theorem isq_unique {n r : Nat} (h1 : r * r ≤ n) (h2 : n < (r + 1) * (r + 1)) : isq n = r := by
  obtain ⟨a, b⟩ := isq_spec n
  have := sq_lt (Nat.lt_of_le_of_lt a h2)
  have := sq_lt (Nat.lt_of_le_of_lt h1 b)
  omega
theorem isq_le {n r : Nat} (h : n < (r + 1) * (r + 1)) : isq n ≤ r := by
  have := sq_lt (Nat.lt_of_le_of_lt (isq_spec n).1 h); omega
theorem le_isq {n r : Nat} (h : r * r ≤ n) : r ≤ isq n := by
  have := sq_lt (Nat.lt_of_le_of_lt h (isq_spec n).2); omega
/-- One step: not below the root. -/
theorem step_ge {n r : Nat} (hr : 0 < r) : isq n ≤ (r + n / r) / 2 := by
  obtain ⟨a, _⟩ := isq_spec n
  generalize isq n = s at *
  by_cases h : r ≤ 2 * s
  · obtain ⟨t, ht⟩ : ∃ t, 2 * s = r + t := ⟨2 * s - r, by omega⟩
    have : t ≤ n / r := by
      rw [Nat.le_div_iff_mul_le hr]
      refine Nat.le_trans ?_ a
      -- t * r ≤ s * s
      have h4 : 4 * (t * r) ≤ 4 * (s * s) := by
        have e : 4 * (s * s) = (r + t) * (r + t) := by
          rw [← ht, Nat.mul_mul_mul_comm]
        rw [e, Nat.add_mul, Nat.mul_add, Nat.mul_add, Nat.mul_comm r t]
        have : 2 * (t * r) ≤ r * r + t * t := by
          rcases Nat.le_total t r with hle | hle
          · obtain ⟨d, rfl⟩ : ∃ d, r = t + d := ⟨r - t, by omega⟩
            have := Nat.mul_comm d t; simp only [Nat.mul_add, Nat.add_mul]; omega
          · obtain ⟨d, rfl⟩ : ∃ d, t = r + d := ⟨t - r, by omega⟩
            have := Nat.mul_comm d r; simp only [Nat.mul_add, Nat.add_mul]; omega
        omega
      omega
    omega
  · generalize n / r = q; omega
/-- One step: below where it was, above the root. -/
theorem step_lt {n r : Nat} (h : isq n < r) : (r + n / r) / 2 < r := by
  have b := (isq_spec n).2
  have h1 : n < r * r := Nat.lt_of_lt_of_le b (Nat.mul_le_mul h h)
  have : n / r < r := by rw [Nat.div_lt_iff_lt_mul (by omega)]; exact h1
  omega
theorem tdiv_nat (a b : Nat) : Int.tdiv (a : Int) (b : Int) = ((a / b : Nat) : Int) := by
  rw [Int.tdiv_eq_ediv_of_nonneg (by omega), Int.natCast_ediv]
theorem root_l0 {n : Nat} (hn : 0 < n) (hn1 : n < 9223372036854775808) : ∀ (d r k : Nat), isq n ≤ r → r ≤ isq n + d → r ≤ 4294967296 → d < k → fix_Root.l0 k n r = some (isq n : Int) := by
  have hs : 1 ≤ isq n := le_isq (by omega)
  intro d
  induction d with
  | zero =>
    intro r k h1 h2 h3 hk
    obtain ⟨k, rfl⟩ : ∃ m, k = m + 1 := ⟨k - 1, by omega⟩
    have e : r = isq n := by omega
    have hst := step_ge (n := n) (r := r) (by omega)
    have hdb : n / r ≤ n := Nat.div_le_self _ _
    have hq : n / r ≤ r + 2 := by
      have b := (isq_spec n).2
      rw [← e] at b
      have : n / r < r + 3 := by
        rw [Nat.div_lt_iff_lt_mul (by omega)]
        rw [Nat.add_mul, Nat.mul_add] at b
        rw [Nat.add_mul]; omega
      omega
    simp only [fix_Root.l0]
    rw [if_neg (by omega), tdiv_nat]
    generalize n / r = q at *
    rw [w64_id (n := (q : Int)) (by omega) (by omega), w64_id (n := (r : Int) + q) (by omega) (by omega), Int.tdiv_eq_ediv_of_nonneg (by omega), w64_id (by omega) (by omega), if_pos (by omega), e]
  | succ d ih =>
    intro r k h1 h2 h3 hk
    by_cases he : r ≤ isq n + d
    · exact ih r k h1 he h3 (by omega)
    · obtain ⟨k, rfl⟩ : ∃ m, k = m + 1 := ⟨k - 1, by omega⟩
      have hst := step_ge (n := n) (r := r) (by omega)
      have hlt := step_lt (n := n) (r := r) (by omega)
      have hdb : n / r < r := by
        rw [Nat.div_lt_iff_lt_mul (by omega)]
        exact Nat.lt_of_lt_of_le (isq_spec n).2 (Nat.mul_le_mul (by omega) (by omega))
      simp only [fix_Root.l0]
      rw [if_neg (by omega), tdiv_nat]
      generalize n / r = q at *
      have e2 : ((r : Int) + q) / 2 = (((r + q) / 2 : Nat) : Int) := by omega
      rw [w64_id (n := (q : Int)) (by omega) (by omega), w64_id (n := (r : Int) + q) (by omega) (by omega), Int.tdiv_eq_ediv_of_nonneg (by omega), e2, w64_id (by omega) (by omega), if_neg (by omega)]
      exact ih ((r + q) / 2) k hst (by omega) (by omega) (by omega)
theorem pow32 (s : Nat) (hs : s ≤ 32) : 2 ^ s ≤ 4294967296 := Nat.le_trans (Nat.pow_le_pow_right (by omega) hs) (by decide)
theorem shl_i64_one (s : Nat) (hs : s ≤ 32) : shl .i64 1 (s : Int) = ((2 ^ s : Nat) : Int) := by
  unfold shl
  rw [IntKind.wrap_i64, show min ((s : Int).toNat) (IntKind.i64.bits) = s by simp [IntKind.bits]; omega]
  have h := pow32 s hs
  rw [Int.one_mul, show ((2 : Int) ^ s) = ((2 ^ s : Nat) : Int) by simp]
  generalize 2 ^ s = z at *
  omega
theorem bits_le (m : Nat) (h0 : m ≠ 0) (h1 : m < 9223372036854775808) : m < 2 ^ Lib.bitLen m ∧ Lib.bitLen m ≤ 63 := by
  obtain ⟨b1, b2, b3, b4⟩ := bitLen_bounds m h0 (by omega)
  refine ⟨b2, ?_⟩
  rcases Nat.lt_or_ge 63 (Lib.bitLen m) with h | h
  · have h2 : 2 ^ 63 ≤ 2 ^ (Lib.bitLen m - 1) := Nat.pow_le_pow_right (by omega) (by omega)
    have h3 := Nat.le_trans h2 b1
    have h4 : (2 : Nat) ^ 63 = 9223372036854775808 := by decide
    rw [h4] at h3
    omega
  · exact h
theorem half_up (L : Nat) (h : L ≤ 63) : wrap64 (Int.tdiv (wrap64 ((L : Int) + 1)) 2) = (((L + 1) / 2 : Nat) : Int) := by
  rw [w64_id (n := (L : Int) + 1) (by omega) (by omega), Int.tdiv_eq_ediv_of_nonneg (by omega), w64_id (by omega) (by omega)]; omega
theorem start_ge {m L : Nat} (h : m < 2 ^ L) : isq m ≤ 2 ^ ((L + 1) / 2) := by
  apply isq_le
  have h1 : 2 ^ L ≤ 2 ^ ((L + 1) / 2) * 2 ^ ((L + 1) / 2) := by
    rw [← Nat.pow_add]; exact Nat.pow_le_pow_right (by omega) (by omega)
  have h2 : 2 ^ ((L + 1) / 2) * 2 ^ ((L + 1) / 2) ≤ (2 ^ ((L + 1) / 2) + 1) * (2 ^ ((L + 1) / 2) + 1) := Nat.mul_le_mul (Nat.le_succ _) (Nat.le_succ _)
  exact Nat.lt_of_lt_of_le h (Nat.le_trans h1 h2)
theorem len_eq (m : Nat) (h : m < 18446744073709551616) : bits_Len.f (m : Int) = some (Lib.bitLen m : Int) := by
  unfold bits_Len.f
  rw [if_pos (by omega), Int.toNat_natCast]
theorem root_pos (m : Nat) (h0 : 0 < m) (h1 : m < 9223372036854775808) (k : Nat) (hk : 4294967296 < k) : fix_Root.f k (m : Int) = some (isq m : Int) := by
  unfold fix_Root.f
  rw [if_neg (by omega), u64_id (by omega) (by omega), len_eq m (by omega), Option.bind_some]
  obtain ⟨b2, b5⟩ := bits_le m (by omega) h1
  obtain ⟨L, hL⟩ : ∃ L, L = Lib.bitLen m := ⟨_, rfl⟩
  rw [← hL] at b2 b5 ⊢
  clear hL
  rw [half_up L b5, if_pos (by omega), shl_i64_one _ (by omega)]
  have hp := pow32 ((L + 1) / 2) (by omega)
  have hle := start_ge b2
  obtain ⟨R, hR⟩ : ∃ R, R = 2 ^ ((L + 1) / 2) := ⟨_, rfl⟩
  rw [← hR] at hp hle ⊢
  exact root_l0 h0 h1 R R k hle (by omega) hp (Nat.lt_of_le_of_lt hp hk)
theorem root_eq (n : Int) (hn : n ≤ 9223372036854775807) (k : Nat) (hk : 4294967296 < k) : fix_Root.f k n = some (isq n.toNat : Int) := by
  by_cases h : n < 1
  · unfold fix_Root.f
    rw [if_pos h, show n.toNat = 0 by omega]; rfl
  · obtain ⟨m, rfl⟩ := Int.eq_ofNat_of_zero_le (show 0 ≤ n by omega)
    rw [Int.toNat_natCast]
    exact root_pos m (by omega) (by omega) k hk
end Go.Proofs.Ytmdfcinjmlagcaa.P
namespace Go.Proofs.Ytmdfcinjmlagcaa.P
open Go.RowKit Go.Proofs.YtmdfcinjmlagcaaW.PrintWords Go.Proofs.YtmdfcinjmlagcaaW.PrintLast Go.Proofs.YtmdfcinjmlagcaaW.PrintMore
theorem refroot_l0 (n : Int) (hn : n ≤ 9223372036854775807) : ∀ (t : Nat), t ≤ 32 → ∀ (r k : Nat), (0 ≤ n → (r : Int) * r ≤ n) → (n < 0 → r = 0) → n < ((r : Int) + (2 ^ t : Nat)) * (r + (2 ^ t : Nat)) → r ≤ 3037000499 → t + 1 ≤ k →
    celluloidref01_Root.l0 k n (r : Int) (((2 ^ t : Nat) : Int) / 2) = some (isq n.toNat : Int) := by
  intro t
  induction t with
  | zero =>
    intro _ r k h1 h2 h3 h4 hk
    obtain ⟨k, rfl⟩ : ∃ m, k = m + 1 := ⟨k - 1, by omega⟩
    simp only [celluloidref01_Root.l0]
    rw [if_neg (by simp)]
    by_cases hneg : n < 0
    · rw [h2 hneg, show n.toNat = 0 by omega]; rfl
    · obtain ⟨m, rfl⟩ := Int.eq_ofNat_of_zero_le (show 0 ≤ n by omega)
      have g1 := h1 (by omega)
      rw [Int.toNat_natCast, isq_unique (n := m) (r := r) (by rw [← Int.natCast_mul] at g1; omega)]
      rw [Nat.pow_zero] at h3
      have : ((r : Int) + ((1 : Nat) : Int)) * (r + ((1 : Nat) : Int)) = (((r + 1) * (r + 1) : Nat) : Int) := by simp
      rw [this] at h3
      omega
  | succ t ih =>
    intro ht r k h1 h2 h3 h4 hk
    obtain ⟨k, rfl⟩ : ∃ m, k = m + 1 := ⟨k - 1, by omega⟩
    have hp : 2 ^ t ≤ 2147483648 := by
      have : 2 ^ t ≤ 2 ^ 31 := Nat.pow_le_pow_right (by omega) (by omega)
      exact this
    have hp0 := Nat.two_pow_pos t
    have e : ((2 ^ (t + 1) : Nat) : Int) / 2 = ((2 ^ t : Nat) : Int) := by rw [Nat.pow_succ]; omega
    have e2 : ((2 ^ (t + 1) : Nat) : Int) = 2 * ((2 ^ t : Nat) : Int) := by rw [Nat.pow_succ]; omega
    rw [e]
    rw [e2] at h3
    simp only [celluloidref01_Root.l0]
    have ih' := ih (by omega)
    obtain ⟨p, hpp⟩ : ∃ p, p = 2 ^ t := ⟨_, rfl⟩
    rw [← hpp] at hp hp0 h3 ih' ⊢
    rw [if_pos (by omega), w64_id (n := (r : Int) + p) (by omega) (by omega), Int.tdiv_eq_ediv_of_nonneg (by omega), w64_id (n := (p : Int) / 2) (by omega) (by omega)]
    have hsq : 3037000500 ≤ (r : Int) + p → n < ((r : Int) + p) * (r + p) := by
      intro hge
      have : (3037000500 : Int) * 3037000500 ≤ ((r : Int) + p) * (r + p) := Int.mul_le_mul hge hge (by omega) (by omega)
      omega
    by_cases g1 : (r : Int) + p ≤ 3037000499
    · rw [if_pos g1]
      have hb : ((r : Int) + p) * (r + p) ≤ 3037000499 * 3037000499 := Int.mul_le_mul g1 g1 (by omega) (by omega)
      have hb0 : 0 ≤ ((r : Int) + p) * (r + p) := Int.mul_nonneg (by omega) (by omega)
      rw [w64_id (n := ((r : Int) + p) * (r + p)) (by omega) (by omega)]
      by_cases g2 : ((r : Int) + p) * (r + p) ≤ n
      · rw [if_pos g2]
        have hc : ((r + p : Nat) : Int) = (r : Int) + p := by omega
        have hc2 : (r : Int) + p + p = r + 2 * p := by omega
        have := ih' (r + p) k (fun _ => by rw [hc]; exact g2) (fun h => by omega) (by rw [hc, hc2]; exact h3) (by omega) (by omega)
        rw [hc] at this
        exact this
      · rw [if_neg g2]
        exact ih' r k h1 h2 (by omega) h4 (by omega)
    · rw [if_neg g1]
      exact ih' r k h1 h2 (hsq (by omega)) h4 (by omega)
theorem ref_root (n : Int) (hn : n ≤ 9223372036854775807) (k : Nat) (hk : 40 ≤ k) : celluloidref01_Root.f k n = some (isq n.toNat : Int) := by
  unfold celluloidref01_Root.f
  have := refroot_l0 n hn 32 (Nat.le_refl _) 0 k (fun h => by simpa using h) (fun _ => rfl) (by
    have : (((0 : Nat) : Int) + ((2 ^ 32 : Nat) : Int)) * (((0 : Nat) : Int) + ((2 ^ 32 : Nat) : Int)) = 18446744073709551616 := by decide
    rw [this]; omega) (by omega) (by omega)
  exact this
end Go.Proofs.Ytmdfcinjmlagcaa.P
namespace Go.Proofs.Ytmdfcinjmlagcaa.P
open Go.RowKit Go.Proofs.YtmdfcinjmlagcaaW.PrintWords Go.Proofs.YtmdfcinjmlagcaaW.PrintLast Go.Proofs.YtmdfcinjmlagcaaW.PrintMore
/-- A matrix that is right. -/
def Mat (a b c d x y : Int) : Prop := (-4194304 ≤ a ∧ a ≤ 4194304) ∧ (-4194304 ≤ b ∧ b ≤ 4194304) ∧ (-4194304 ≤ c ∧ c ≤ 4194304) ∧ (-4194304 ≤ d ∧ d ≤ 4194304) ∧ (-1048576 ≤ x ∧ x ≤ 1048576) ∧ (-1048576 ≤ y ∧ y ≤ 1048576)
instance (a b c d x y : Int) : Decidable (Mat a b c d x y) := by unfold Mat; infer_instance
theorem matrix_eq (a b c d x y : Int) (k : Nat) (hk : 1001 ≤ k) : field_RightMatrix.f k a b c d x y = some (decide (Mat a b c d x y)) := by
  unfold field_RightMatrix.f
  rw [within_eq _ _ _ (by simp) k hk, within_eq _ _ _ (by simp) k hk]
  simp only [Option.bind_some, decide_eq_true_eq]
  by_cases h1 : ∀ v ∈ [a, b, c, d], -4194304 ≤ v ∧ v ≤ 4194304
  · rw [if_pos h1]; congr 1; rw [decide_eq_decide]; unfold Mat; simp at h1 ⊢; omega
  · rw [if_neg h1]; congr 1; symm; apply decide_eq_false; unfold Mat; simp at h1; intro h; exact absurd h.2.2.2.1 (by have := h1 h.1.1 h.1.2 h.2.1.1 h.2.1.2 h.2.2.1.1 h.2.2.1.2; omega)
theorem in_eq (n m : Int) (h : 0 ≤ m ∧ m ≤ 1073741824) : celluloidref07_in.f n m = some (decide (-m ≤ n ∧ n ≤ m)) := by
  unfold celluloidref07_in.f
  rw [w64_id (by omega) (by omega)]
  by_cases h1 : n ≥ -m
  · rw [if_pos h1]; congr 1; rw [decide_eq_decide]; omega
  · rw [if_neg h1]; congr 1; symm; apply decide_eq_false; omega
theorem matrix07_eq (a b c d x y : Int) : celluloidref07_Matrix.f a b c d x y = some (decide (Mat a b c d x y)) := by
  unfold celluloidref07_Matrix.f
  rw [in_eq _ _ (by omega), in_eq _ _ (by omega), in_eq _ _ (by omega), in_eq _ _ (by omega), in_eq _ _ (by omega), in_eq _ _ (by omega)]
  simp only [Option.bind_some, decide_eq_true_eq]
  unfold Mat
  by_cases h1 : -4194304 ≤ a ∧ a ≤ 4194304 <;> by_cases h2 : -4194304 ≤ b ∧ b ≤ 4194304 <;> by_cases h3 : -4194304 ≤ c ∧ c ≤ 4194304 <;> by_cases h4 : -4194304 ≤ d ∧ d ≤ 4194304 <;> by_cases h5 : -1048576 ≤ x ∧ x ≤ 1048576 <;> simp [h1, h2, h3, h4, h5]
/-- A point of which no part is further than so much. -/
def Wi (x y m : Int) : Prop := -m ≤ x ∧ x ≤ m ∧ -m ≤ y ∧ y ≤ m
instance (x y m : Int) : Decidable (Wi x y m) := by unfold Wi; infer_instance
theorem awithin_eq (x y m : Int) (h : 0 ≤ m ∧ m ≤ 1073741824) : affine_within.f x y m = some (decide (Wi x y m)) := by
  unfold affine_within.f Wi
  rw [w64_id (by omega) (by omega)]
  repeat' split
  all_goals first
    | exact congrArg some (decide_eq_decide.mpr (by omega))
    | exact congrArg some (decide_eq_false (by omega)).symm
theorem far_eq (x y m : Int) (h : 0 ≤ m ∧ m ≤ 1073741824) : celluloidref14_Far.f x y m = some (decide (¬ Wi x y m)) := by
  unfold celluloidref14_Far.f Wi
  rw [w64_id (by omega) (by omega)]
  repeat' split
  all_goals first
    | exact congrArg some (decide_eq_true (by omega)).symm
    | exact congrArg some (decide_eq_decide.mpr (by omega))
theorem mb {x y B C : Int} (h1 : -B ≤ x) (h2 : x ≤ B) (h3 : -C ≤ y) (h4 : y ≤ C) : -(B * C) ≤ x * y ∧ x * y ≤ B * C := by
  have hB : 0 ≤ B := by omega
  have hx : x.natAbs ≤ B.toNat := by omega
  have hy : y.natAbs ≤ C.toNat := by omega
  have := mul_bound hx hy
  have e : ((B.toNat * C.toNat : Nat) : Int) = B * C := by
    rw [Int.natCast_mul, Int.toNat_of_nonneg (by omega), Int.toNat_of_nonneg (by omega)]
  omega
theorem floorR_eq {a b : Int} (hb : 0 < b) (h0 : -4611686018427387904 ≤ a) (h1 : a ≤ 4611686018427387904) : celluloidref14_floor.f a b = some (a / b) := by
  unfold celluloidref14_floor.f
  rw [if_neg (by omega)]
  have e := Int.ediv_mul_add_emod a b
  have l1 := Int.emod_nonneg a (show b ≠ 0 by omega)
  have l2 := Int.emod_lt_of_pos a hb
  have qb : -4611686018427387904 ≤ a / b ∧ a / b ≤ 4611686018427387904 := by
    constructor
    · rw [Int.le_ediv_iff_mul_le hb]; omega
    · have : a / b < 4611686018427387905 := by
        rw [Int.ediv_lt_iff_lt_mul hb]; omega
      omega
  by_cases h : 0 ≤ a
  · rw [Int.tmod_eq_emod_of_nonneg h, if_neg (by omega), Int.tdiv_eq_ediv_of_nonneg h, w64_id (by omega) (by omega)]
  · have em : Int.tmod a b = -((-a) % b) := by
      have : a = -(-a) := by omega
      rw [this, Int.neg_tmod, Int.tmod_eq_emod_of_nonneg (by omega), Int.neg_neg]
    have ed : Int.tdiv a b = -((-a) / b) := by
      have : a = -(-a) := by omega
      rw [this, Int.neg_tdiv, Int.tdiv_eq_ediv_of_nonneg (by omega), Int.neg_neg]
    have d' := Int.ediv_mul_add_emod (-a) b
    have r1 := Int.emod_nonneg (-a) (show b ≠ 0 by omega)
    have r2 := Int.emod_lt_of_pos (-a) hb
    rw [em, ed]
    by_cases hz : -((-a) % b) < 0
    · have hq : a / b = -((-a) / b) - 1 := by
        have : a = (b - (-a) % b) + (-((-a) / b) - 1) * b := by rw [Int.sub_mul, Int.neg_mul, Int.one_mul]; omega
        rw [this, Int.add_mul_ediv_right _ _ (by omega), Int.ediv_eq_zero_of_lt (by omega) (by omega), ← this]; omega
      rw [if_pos hz, w64_id (n := -((-a) / b)) (by omega) (by omega), w64_id (by omega) (by omega), hq]
    · have hq : a / b = -((-a) / b) := by
        have : a = -((-a) / b) * b := by rw [Int.neg_mul]; omega
        rw [this, Int.mul_ediv_cancel _ (by omega), ← this]
      rw [if_neg hz, w64_id (by omega) (by omega), hq]
/-- One unit's part of where it comes from, times the determinant. -/
def bk1 (d c x y p q : Int) : Int := d * (p * 20480 - x * 65536) - c * (q * 20480 - y * 65536)
theorem bk1_bd {d c x y p q : Int} (hd : -4194304 ≤ d ∧ d ≤ 4194304) (hc : -4194304 ≤ c ∧ c ≤ 4194304) (hx : -1048576 ≤ x ∧ x ≤ 1048576) (hy : -1048576 ≤ y ∧ y ≤ 1048576) (hw : Wi p q 16777216) :
    -3458764513820540928 ≤ bk1 d c x y p q ∧ bk1 d c x y p q ≤ 3458764513820540928 ∧ wrap64 (wrap64 (d * wrap64 (wrap64 (p * 20480) - wrap64 (x * 65536))) - wrap64 (c * wrap64 (wrap64 (q * 20480) - wrap64 (y * 65536)))) = bk1 d c x y p q := by
  unfold Wi at hw; unfold bk1
  have m1 := mb (x := d) (y := p * 20480 - x * 65536) (B := 4194304) (C := 412316860416) hd.1 hd.2 (by omega) (by omega)
  have m2 := mb (x := c) (y := q * 20480 - y * 65536) (B := 4194304) (C := 412316860416) hc.1 hc.2 (by omega) (by omega)
  refine ⟨by omega, by omega, ?_⟩
  rw [w64_id (n := p * 20480) (by omega) (by omega), w64_id (n := x * 65536) (by omega) (by omega), w64_id (n := q * 20480) (by omega) (by omega), w64_id (n := y * 65536) (by omega) (by omega), w64_id (n := p * 20480 - x * 65536) (by omega) (by omega), w64_id (n := q * 20480 - y * 65536) (by omega) (by omega), w64_id (n := d * (p * 20480 - x * 65536)) (by omega) (by omega), w64_id (n := c * (q * 20480 - y * 65536)) (by omega) (by omega), w64_id (by omega) (by omega)]
/-- The determinant. -/
def det (a b c d : Int) : Int := a * d - b * c
theorem det_bd {a b c d x y : Int} (h : Mat a b c d x y) : -35184372088832 ≤ det a b c d ∧ det a b c d ≤ 35184372088832 ∧ wrap64 (wrap64 (a * d) - wrap64 (b * c)) = det a b c d ∧ wrap64 (a * d) = a * d ∧ wrap64 (b * c) = b * c := by
  obtain ⟨ha, hb, hc, hd, hx, hy⟩ := h
  unfold det
  have m1 := mb ha.1 ha.2 hd.1 hd.2
  have m2 := mb hb.1 hb.2 hc.1 hc.2
  refine ⟨by omega, by omega, ?_, w64_id (by omega) (by omega), w64_id (by omega) (by omega)⟩
  rw [w64_id (n := a * d) (by omega) (by omega), w64_id (n := b * c) (by omega) (by omega), w64_id (by omega) (by omega)]
/-- Where a point of units comes from. -/
def bkS (a b c d x y p q : Int) : Int × Int × Bool :=
  if Mat a b c d x y ∧ Wi p q 16777216 ∧ det a b c d ≠ 0 then (fl (bk1 d c x y p q) (det a b c d), fl (bk1 a b y x q p) (det a b c d), true) else (0, 0, false)
theorem back_eq (a b c d x y p q : Int) (k : Nat) (hk : 2000 ≤ k) : affine_Back.f k a b c d x y p q = some (bkS a b c d x y p q) := by
  obtain ⟨k, rfl⟩ : ∃ m, k = m + 1 := ⟨k - 1, by omega⟩
  have no : ∀ e : Int, affine_Back.j0 (k + 1) e true a b c d x y p q = some (0, 0, false) := by intro e; rw [affine_Back.j0, if_pos rfl]
  unfold affine_Back.f bkS
  rw [matrix_eq _ _ _ _ _ _ _ (by omega), Option.bind_some]
  by_cases h : Mat a b c d x y
  · rw [decide_eq_true h, if_pos rfl, awithin_eq _ _ _ (by omega), Option.bind_some]
    by_cases h2 : Wi p q 16777216
    · have hdb := det_bd h
      rw [decide_eq_true h2, if_pos rfl, hdb.2.2.1]
      by_cases h3 : det a b c d = 0
      · rw [h3, show ((0 : Int) == 0) = true from rfl, no, if_neg (fun hh => hh.2.2 rfl)]
      · have hne : (det a b c d == 0) = false := by simp [h3]
        rw [hne, affine_Back.j0, if_neg (by simp), if_pos ⟨h, h2, h3⟩]
        obtain ⟨ha, hb, hc, hd, hx, hy⟩ := h
        have h2' : Wi q p 16777216 := by unfold Wi at *; omega
        have b1 := bk1_bd hd hc hx hy h2
        have b2 := bk1_bd ha hb hy hx h2'
        rw [b1.2.2, b2.2.2, floor_eq (by unfold I64; omega) (by unfold I64; omega) k (by omega), floor_eq (by unfold I64; omega) (by unfold I64; omega) k (by omega)]
        unfold md
        rw [if_neg h3, if_neg h3, Int.mul_one, Int.mul_one, num_yes, num_yes]
        · rfl
        · by_cases hi : I64 (fl (bk1 a b y x q p) (det a b c d))
          · exact hi
          · have := fl_over (by unfold I64; omega) (by unfold I64; omega) h3 hi; omega
        · by_cases hi : I64 (fl (bk1 d c x y p q) (det a b c d))
          · exact hi
          · have := fl_over (by unfold I64; omega) (by unfold I64; omega) h3 hi; omega
    · rw [decide_eq_false h2, if_neg (by simp), no, if_neg (fun hh => h2 hh.2.1)]
  · rw [decide_eq_false h, if_neg (by simp), no, if_neg (fun hh => h hh.1)]
end Go.Proofs.Ytmdfcinjmlagcaa.P
namespace Go.Proofs.Ytmdfcinjmlagcaa.P
open Go.RowKit Go.Proofs.YtmdfcinjmlagcaaW.PrintWords Go.Proofs.YtmdfcinjmlagcaaW.PrintLast Go.Proofs.YtmdfcinjmlagcaaW.PrintMore
def co1 (p q r s : Int) : Int := (p * q + r * s) / 65536
theorem co1_w {p q r s : Int} (hp : -4194304 ≤ p ∧ p ≤ 4194304) (hq : -4194304 ≤ q ∧ q ≤ 4194304) (hr : -4194304 ≤ r ∧ r ≤ 4194304) (hs : -4194304 ≤ s ∧ s ≤ 4194304) :
    wrap64 (wrap64 (p * q) + wrap64 (r * s)) = p * q + r * s ∧ -35184372088832 ≤ p * q + r * s ∧ p * q + r * s ≤ 35184372088832 ∧ -536870912 ≤ co1 p q r s ∧ co1 p q r s ≤ 536870912 := by
  have m1 := mb (x := p) (y := q) (B := 4194304) (C := 4194304) hp.1 hp.2 hq.1 hq.2
  have m2 := mb (x := r) (y := s) (B := 4194304) (C := 4194304) hr.1 hr.2 hs.1 hs.2
  unfold co1
  refine ⟨?_, by omega, by omega, by omega, by omega⟩
  rw [w64_id (n := p * q) (by omega) (by omega), w64_id (n := r * s) (by omega) (by omega), w64_id (by omega) (by omega)]
/-- Two matrices, one behind the other. -/
def coS (a b c d x y a' b' c' d' x' y' : Int) : Int × Int × Int × Int × Int × Int × Int :=
  if Mat a b c d x y ∧ Mat a' b' c' d' x' y' then
    (if Mat (co1 a a' c b') (co1 b a' d b') (co1 a c' c d') (co1 b c' d d') (co1 a x' c y' + x) (co1 b x' d y' + y) then (co1 a a' c b', co1 b a' d b', co1 a c' c d', co1 b c' d d', co1 a x' c y' + x, co1 b x' d y' + y, 0) else (0, 0, 0, 0, 0, 0, 8))
  else (0, 0, 0, 0, 0, 0, 1)
theorem compose_eq (a b c d x y a' b' c' d' x' y' : Int) (k : Nat) (hk : 2000 ≤ k) : affine_Compose.f k a b c d x y a' b' c' d' x' y' = some (coS a b c d x y a' b' c' d' x' y') := by
  obtain ⟨k, rfl⟩ : ∃ m, k = m + 1 := ⟨k - 1, by omega⟩
  have no : affine_Compose.j0 (k + 1) true a b c d x y a' b' c' d' x' y' = some (0, 0, 0, 0, 0, 0, 1) := by rw [affine_Compose.j0, if_pos rfl]
  unfold affine_Compose.f coS
  rw [matrix_eq _ _ _ _ _ _ _ (by omega), Option.bind_some]
  by_cases h : Mat a b c d x y
  · rw [decide_eq_true h, if_pos rfl, matrix_eq _ _ _ _ _ _ _ (by omega), Option.bind_some]
    by_cases h' : Mat a' b' c' d' x' y'
    · rw [decide_eq_true h', Bool.not_true, affine_Compose.j0, if_neg (by simp), if_pos ⟨h, h'⟩]
      obtain ⟨ha, hb, hc, hd, hx, hy⟩ := h
      obtain ⟨ka, kb, kc, kd, kx, ky⟩ := h'
      have w1 := co1_w ha ka hc kb
      have w2 := co1_w hb ka hd kb
      have w3 := co1_w ha kc hc kd
      have w4 := co1_w hb kc hd kd
      have w5 := co1_w (q := x') (s := y') ha (by omega) hc (by omega)
      have w6 := co1_w (q := x') (s := y') hb (by omega) hd (by omega)
      rw [w1.1, w2.1, w3.1, w4.1, w5.1, w6.1]
      show ((field_RightMatrix.f k (co1 a a' c b') (co1 b a' d b') (co1 a c' c d') (co1 b c' d d') (wrap64 (co1 a x' c y' + x)) (wrap64 (co1 b x' d y' + y))).bind fun t => if t = true then some (co1 a a' c b', co1 b a' d b', co1 a c' c d', co1 b c' d d', wrap64 (co1 a x' c y' + x), wrap64 (co1 b x' d y' + y), (0 : Int)) else some (0, 0, 0, 0, 0, 0, 8)) = _
      rw [w64_id (n := co1 a x' c y' + x) (by omega) (by omega), w64_id (n := co1 b x' d y' + y) (by omega) (by omega), matrix_eq _ _ _ _ _ _ _ (by omega), Option.bind_some]
      by_cases hm : Mat (co1 a a' c b') (co1 b a' d b') (co1 a c' c d') (co1 b c' d d') (co1 a x' c y' + x) (co1 b x' d y' + y)
      · rw [decide_eq_true hm, if_pos rfl, if_pos hm]
      · rw [decide_eq_false hm, if_neg (by simp), if_neg hm]
    · rw [decide_eq_false h', Bool.not_false, no, if_neg (fun hh => h' hh.2)]
  · rw [decide_eq_false h, if_neg (by simp), no, if_neg (fun hh => h hh.1)]
theorem composeR_eq (a b c d x y a' b' c' d' x' y' : Int) (k : Nat) (hk : 10 ≤ k) : celluloidref14_Compose.f k a b c d x y a' b' c' d' x' y' = some (coS a b c d x y a' b' c' d' x' y') := by
  obtain ⟨k, rfl⟩ : ∃ m, k = m + 1 := ⟨k - 1, by omega⟩
  have no : celluloidref14_Compose.j0 (k + 1) true a b c d x y a' b' c' d' x' y' = some (0, 0, 0, 0, 0, 0, 1) := by rw [celluloidref14_Compose.j0, if_pos rfl]
  unfold celluloidref14_Compose.f coS
  rw [matrix07_eq, Option.bind_some]
  by_cases h : Mat a b c d x y
  · rw [decide_eq_true h, if_pos rfl, matrix07_eq, Option.bind_some]
    by_cases h' : Mat a' b' c' d' x' y'
    · rw [decide_eq_true h', Bool.not_true, celluloidref14_Compose.j0, if_neg (by simp), if_pos ⟨h, h'⟩]
      obtain ⟨ha, hb, hc, hd, hx, hy⟩ := h
      obtain ⟨ka, kb, kc, kd, kx, ky⟩ := h'
      have w1 := co1_w ha ka hc kb
      have w2 := co1_w hb ka hd kb
      have w3 := co1_w ha kc hc kd
      have w4 := co1_w hb kc hd kd
      have w5 := co1_w (q := x') (s := y') ha (by omega) hc (by omega)
      have w6 := co1_w (q := x') (s := y') hb (by omega) hd (by omega)
      have f : ∀ n : Int, -35184372088832 ≤ n → n ≤ 35184372088832 → celluloidref14_floor.f n 65536 = some (n / 65536) := fun n h0 h1 => floorR_eq (by omega) (by omega) (by omega)
      rw [w1.1, w2.1, w3.1, w4.1, w5.1, w6.1, f _ w1.2.1 w1.2.2.1, f _ w2.2.1 w2.2.2.1, f _ w3.2.1 w3.2.2.1, f _ w4.2.1 w4.2.2.1, f _ w5.2.1 w5.2.2.1, f _ w6.2.1 w6.2.2.1]
      simp only [Option.bind_some]
      show ((celluloidref07_Matrix.f (co1 a a' c b') (co1 b a' d b') (co1 a c' c d') (co1 b c' d d') (wrap64 (x + co1 a x' c y')) (wrap64 (y + co1 b x' d y'))).bind fun t => if t = true then some (co1 a a' c b', co1 b a' d b', co1 a c' c d', co1 b c' d d', wrap64 (x + co1 a x' c y'), wrap64 (y + co1 b x' d y'), (0 : Int)) else some (0, 0, 0, 0, 0, 0, 8)) = _
      rw [Int.add_comm x, Int.add_comm y, w64_id (n := co1 a x' c y' + x) (by omega) (by omega), w64_id (n := co1 b x' d y' + y) (by omega) (by omega), matrix07_eq, Option.bind_some]
      by_cases hm : Mat (co1 a a' c b') (co1 b a' d b') (co1 a c' c d') (co1 b c' d d') (co1 a x' c y' + x) (co1 b x' d y' + y)
      · rw [decide_eq_true hm, if_pos rfl, if_pos hm]
      · rw [decide_eq_false hm, if_neg (by simp), if_neg hm]
    · rw [decide_eq_false h', Bool.not_false, no, if_neg (fun hh => h' hh.2)]
  · rw [decide_eq_false h, if_neg (by simp), no, if_neg (fun hh => h hh.1)]
/-- Is a change right? -/
def Cxr (m0 m1 m2 m3 a0 a1 a2 a3 : Int) : Prop := ((-512 ≤ m0 ∧ m0 ≤ 512) ∧ (-512 ≤ m1 ∧ m1 ≤ 512) ∧ (-512 ≤ m2 ∧ m2 ≤ 512) ∧ (-512 ≤ m3 ∧ m3 ≤ 512)) ∧ (-255 ≤ a0 ∧ a0 ≤ 255) ∧ (-255 ≤ a1 ∧ a1 ≤ 255) ∧ (-255 ≤ a2 ∧ a2 ≤ 255) ∧ (-255 ≤ a3 ∧ a3 ≤ 255)
instance (m0 m1 m2 m3 a0 a1 a2 a3 : Int) : Decidable (Cxr m0 m1 m2 m3 a0 a1 a2 a3) := by unfold Cxr; infer_instance
theorem cx_eq (m0 m1 m2 m3 a0 a1 a2 a3 : Int) (k : Nat) (hk : 1001 ≤ k) : field_RightCx.f k m0 m1 m2 m3 a0 a1 a2 a3 = some (decide (Cxr m0 m1 m2 m3 a0 a1 a2 a3)) := by
  unfold field_RightCx.f
  rw [within_eq _ _ _ (by simp) k hk, within_eq _ _ _ (by simp) k hk, Option.bind_some]
  by_cases h : ∀ x ∈ [m0, m1, m2, m3], -512 ≤ x ∧ x ≤ 512
  · rw [decide_eq_true h, if_pos rfl]; congr 1; rw [decide_eq_decide]; unfold Cxr; simp at h ⊢; omega
  · rw [decide_eq_false h, if_neg (by simp)]; congr 1; symm; apply decide_eq_false; unfold Cxr; simp at h; intro hh; have := h hh.1.1.1 hh.1.1.2 hh.1.2.1.1 hh.1.2.1.2 hh.1.2.2.1.1 hh.1.2.2.1.2; omega
theorem cx07_eq (m0 m1 m2 m3 a0 a1 a2 a3 : Int) (k : Nat) (hk : 10 ≤ k) : celluloidref07_Cx.f k m0 m1 m2 m3 a0 a1 a2 a3 = some (decide (Cxr m0 m1 m2 m3 a0 a1 a2 a3)) := by
  obtain ⟨k, rfl⟩ : ∃ m, k = m + 5 := ⟨k - 5, by omega⟩
  have i5 : ∀ n, celluloidref07_in.f n 512 = some (decide (-512 ≤ n ∧ n ≤ 512)) := fun n => in_eq n 512 (by omega)
  have i2 : ∀ n, celluloidref07_in.f n 255 = some (decide (-255 ≤ n ∧ n ≤ 255)) := fun n => in_eq n 255 (by omega)
  have e4 : celluloidref07_Cx.l0 (k + 1) (3 + 1) m0 m1 m2 m3 a0 a1 a2 a3 = some true := by rw [celluloidref07_Cx.l0, if_neg (by decide)]
  have e3 : celluloidref07_Cx.l0 (k + 2) (2 + 1) m0 m1 m2 m3 a0 a1 a2 a3 = some (decide ((-512 ≤ m3 ∧ m3 ≤ 512) ∧ (-255 ≤ a3 ∧ a3 ≤ 255))) := by
    rw [celluloidref07_Cx.l0, if_pos (by decide), if_neg (by decide), if_neg (by decide), if_neg (by decide), if_pos (by decide), i5, i2, e4]
    simp only [Option.bind_some, decide_eq_true_eq]
    by_cases h1 : -512 ≤ m3 ∧ m3 ≤ 512 <;> by_cases h2 : -255 ≤ a3 ∧ a3 ≤ 255 <;> simp [h1, h2]
  have e2 : celluloidref07_Cx.l0 (k + 3) (1 + 1) m0 m1 m2 m3 a0 a1 a2 a3 = some (decide (((-512 ≤ m2 ∧ m2 ≤ 512) ∧ (-255 ≤ a2 ∧ a2 ≤ 255)) ∧ ((-512 ≤ m3 ∧ m3 ≤ 512) ∧ (-255 ≤ a3 ∧ a3 ≤ 255)))) := by
    rw [celluloidref07_Cx.l0, if_pos (by decide), if_neg (by decide), if_neg (by decide), if_pos (by decide), i5, i2, e3]
    simp only [Option.bind_some, decide_eq_true_eq]
    by_cases h1 : -512 ≤ m2 ∧ m2 ≤ 512 <;> by_cases h2 : -255 ≤ a2 ∧ a2 ≤ 255 <;> simp [h1, h2]
  have e1 : celluloidref07_Cx.l0 (k + 4) (0 + 1) m0 m1 m2 m3 a0 a1 a2 a3 = some (decide (((-512 ≤ m1 ∧ m1 ≤ 512) ∧ (-255 ≤ a1 ∧ a1 ≤ 255)) ∧ ((-512 ≤ m2 ∧ m2 ≤ 512) ∧ (-255 ≤ a2 ∧ a2 ≤ 255)) ∧ ((-512 ≤ m3 ∧ m3 ≤ 512) ∧ (-255 ≤ a3 ∧ a3 ≤ 255)))) := by
    rw [celluloidref07_Cx.l0, if_pos (by decide), if_neg (by decide), if_pos (by decide), i5, i2, e2]
    simp only [Option.bind_some, decide_eq_true_eq]
    by_cases h1 : -512 ≤ m1 ∧ m1 ≤ 512 <;> by_cases h2 : -255 ≤ a1 ∧ a1 ≤ 255 <;> simp [h1, h2]
  unfold celluloidref07_Cx.f
  rw [celluloidref07_Cx.l0, if_pos (by decide), if_pos rfl, i5, i2, e1]
  simp only [Option.bind_some, decide_eq_true_eq]
  by_cases h1 : -512 ≤ m0 ∧ m0 ≤ 512
  · rw [if_pos h1]
    by_cases h2 : -255 ≤ a0 ∧ a0 ≤ 255
    · rw [if_pos h2]
      congr 1
      rw [Bool.eq_iff_iff, decide_eq_true_iff, decide_eq_true_iff]
      unfold Cxr
      constructor
      · rintro ⟨⟨p1, q1⟩, ⟨p2, q2⟩, p3, q3⟩
        exact ⟨⟨h1, p1, p2, p3⟩, h2, q1, q2, q3⟩
      · rintro ⟨⟨_, p1, p2, p3⟩, _, q1, q2, q3⟩
        exact ⟨⟨p1, q1⟩, ⟨p2, q2⟩, p3, q3⟩
    · rw [if_neg h2, decide_eq_false (fun h : Cxr m0 m1 m2 m3 a0 a1 a2 a3 => by unfold Cxr at h; exact h2 h.2.1)]
  · rw [if_neg h1, decide_eq_false (fun h : Cxr m0 m1 m2 m3 a0 a1 a2 a3 => by unfold Cxr at h; exact h1 h.1.1)]
/-- A part of a colour, changed. -/
def cc (n m a : Int) : Int := mn (mx (n * m / 256 + a) 0) 255
theorem cc_w {n m a : Int} (hn : 0 ≤ n ∧ n ≤ 255) (hm : -512 ≤ m ∧ m ≤ 512) (ha : -255 ≤ a ∧ a ≤ 255) : wrap64 (n * m) = n * m ∧ wrap64 (n * m / 256 + a) = n * m / 256 + a ∧ -130560 ≤ n * m ∧ n * m ≤ 130560 := by
  have m1 := mb (x := n) (y := m) (B := 255) (C := 512) (by omega) hn.2 hm.1 hm.2
  exact ⟨w64_id (by omega) (by omega), w64_id (by omega) (by omega), by omega, by omega⟩
theorem clamp_eq (a b c : Int) : affine_clamp.f a b c = some (mn (mx a b) c) := rfl
theorem end_eq {a b c : Int} (h : b ≤ c) : celluloidref14_end.f a b c = some (mn (mx a b) c) := by
  unfold celluloidref14_end.f
  have e : mx a b = if a < b then b else a := rfl
  by_cases h1 : a < b
  · rw [if_pos h1, e, if_pos h1]; unfold mn; rw [if_neg (by omega)]
  · rw [if_neg h1, e, if_neg h1]
    unfold mn
    by_cases h2 : a > c
    · rw [if_pos h2, if_pos h2]
    · rw [if_neg h2, if_neg h2]
/-- A colour, changed. -/
def colS (m0 m1 m2 m3 a0 a1 a2 a3 r g b a : Int) : Int × Int × Int × Int := if Cxr m0 m1 m2 m3 a0 a1 a2 a3 ∧ Col r g b a then (cc r m0 a0, cc g m1 a1, cc b m2 a2, cc a m3 a3) else (0, 0, 0, 0)
theorem color_eq (m0 m1 m2 m3 a0 a1 a2 a3 r g b a : Int) (k : Nat) (hk : 1100 ≤ k) : affine_Color.f k m0 m1 m2 m3 a0 a1 a2 a3 r g b a = some (colS m0 m1 m2 m3 a0 a1 a2 a3 r g b a) := by
  obtain ⟨k, rfl⟩ : ∃ m, k = m + 10 := ⟨k - 10, by omega⟩
  have no : affine_Color.j0 (k + 10) true m0 m1 m2 m3 a0 a1 a2 a3 r g b a = some (0, 0, 0, 0) := by rw [affine_Color.j0, if_pos rfl]
  unfold affine_Color.f colS
  rw [cx_eq _ _ _ _ _ _ _ _ _ (by omega), Option.bind_some]
  by_cases h : Cxr m0 m1 m2 m3 a0 a1 a2 a3
  · rw [decide_eq_true h, if_pos rfl, rgba_eq _ _ _ _ _ (by omega), Option.bind_some]
    by_cases h' : Col r g b a
    · rw [decide_eq_true h', Bool.not_true, affine_Color.j0, if_neg (by simp), if_pos ⟨h, h'⟩]
      obtain ⟨⟨p0, p1, p2, p3⟩, q0, q1, q2, q3⟩ := h
      obtain ⟨z0, z1, z2, z3⟩ := h'
      have w0 := cc_w z0 p0 q0
      have w1 := cc_w z1 p1 q1
      have w2 := cc_w z2 p2 q2
      have w3 := cc_w z3 p3 q3
      rw [affine_Color.l0, if_pos (by decide), if_pos rfl, w0.1, w0.2.1, clamp_eq, Option.bind_some]
      rw [affine_Color.l0, if_pos (by decide), if_neg (by decide), if_pos (by decide), w1.1, w1.2.1, clamp_eq, Option.bind_some]
      rw [affine_Color.l0, if_pos (by decide), if_neg (by decide), if_neg (by decide), if_pos (by decide), w2.1, w2.2.1, clamp_eq, Option.bind_some]
      rw [affine_Color.l0, if_pos (by decide), if_neg (by decide), if_neg (by decide), if_neg (by decide), if_pos (by decide), w3.1, w3.2.1, clamp_eq, Option.bind_some]
      rw [affine_Color.l0, if_neg (by decide)]; rfl
    · rw [decide_eq_false h', Bool.not_false, no, if_neg (fun hh => h' hh.2)]
  · rw [decide_eq_false h, if_neg (by simp), no, if_neg (fun hh => h hh.1)]
theorem colorR_eq {m0 m1 m2 m3 a0 a1 a2 a3 r g b a : Int} (h : Cxr m0 m1 m2 m3 a0 a1 a2 a3) (h' : Col r g b a) (k : Nat) (hk : 10 ≤ k) : celluloidref14_Color.f k m0 m1 m2 m3 a0 a1 a2 a3 r g b a = some (colS m0 m1 m2 m3 a0 a1 a2 a3 r g b a) := by
  obtain ⟨k, rfl⟩ : ∃ m, k = m + 10 := ⟨k - 10, by omega⟩
  unfold celluloidref14_Color.f colS
  rw [if_pos ⟨h, h'⟩]
  obtain ⟨⟨p0, p1, p2, p3⟩, q0, q1, q2, q3⟩ := h
  obtain ⟨z0, z1, z2, z3⟩ := h'
  have w0 := cc_w z0 p0 q0
  have w1 := cc_w z1 p1 q1
  have w2 := cc_w z2 p2 q2
  have w3 := cc_w z3 p3 q3
  have f : ∀ n : Int, -130560 ≤ n → n ≤ 130560 → celluloidref14_floor.f n 256 = some (n / 256) := fun n h0 h1 => floorR_eq (by omega) (by omega) (by omega)
  have d0 : rd [r, g, b, a] 0 = r := rfl
  have d1 : ∀ t, rd [t, g, b, a] 1 = g := fun _ => rfl
  have d2 : ∀ t u, rd [t, u, b, a] 2 = b := fun _ _ => rfl
  have d3 : ∀ t u v, rd [t, u, v, a] 3 = a := fun _ _ _ => rfl
  have s0 : ∀ t, [r, g, b, a].set (0 : Int).toNat t = [t, g, b, a] := fun _ => rfl
  have s1 : ∀ t u, [t, g, b, a].set (1 : Int).toNat u = [t, u, b, a] := fun _ _ => rfl
  have s2 : ∀ t u v, [t, u, b, a].set (2 : Int).toNat v = [t, u, v, a] := fun _ _ _ => rfl
  have s3 : ∀ t u v x, [t, u, v, a].set (3 : Int).toNat x = [t, u, v, x] := fun _ _ _ _ => rfl
  have l4 : ∀ t u v x : Int, (([t, u, v, x] : List Int).length : Int) = 4 := fun _ _ _ _ => rfl
  rw [celluloidref14_Color.l0, if_pos (by decide), if_pos (by decide), if_pos (by rw [l4]; decide), if_pos rfl, d0, w0.1, f _ w0.2.2.1 w0.2.2.2, Option.bind_some, w0.2.1, end_eq (by omega), Option.bind_some, s0]
  rw [celluloidref14_Color.l0, if_pos (by decide), if_pos (by decide), if_pos (by rw [l4]; decide), if_neg (by decide), if_pos (by decide), d1, w1.1, f _ w1.2.2.1 w1.2.2.2, Option.bind_some, w1.2.1, end_eq (by omega), Option.bind_some, s1]
  rw [celluloidref14_Color.l0, if_pos (by decide), if_pos (by decide), if_pos (by rw [l4]; decide), if_neg (by decide), if_neg (by decide), if_pos (by decide), d2, w2.1, f _ w2.2.2.1 w2.2.2.2, Option.bind_some, w2.2.1, end_eq (by omega), Option.bind_some, s2]
  rw [celluloidref14_Color.l0, if_pos (by decide), if_pos (by decide), if_pos (by rw [l4]; decide), if_neg (by decide), if_neg (by decide), if_neg (by decide), if_pos (by decide), d3, w3.1, f _ w3.2.2.1 w3.2.2.2, Option.bind_some, w3.2.1, end_eq (by omega), Option.bind_some, s3]
  rw [celluloidref14_Color.l0, if_neg (by decide), if_pos (by rw [l4]; decide), if_pos (by rw [l4]; decide), if_pos (by rw [l4]; decide), if_pos (by rw [l4]; decide)]
  rfl
end Go.Proofs.Ytmdfcinjmlagcaa.P
namespace Go.Proofs.Ytmdfcinjmlagcaa.P
open Go.RowKit Go.Proofs.YtmdfcinjmlagcaaW.PrintWords Go.Proofs.YtmdfcinjmlagcaaW.PrintLast Go.Proofs.YtmdfcinjmlagcaaW.PrintMore
theorem refs_l0 (z l : List S43) (hl : l.length * 48 ≤ 140737488351232) : ∀ (d i k : Nat) (L : List S48), i + d = l.length → L.length ≤ i → d < k → ∃ v, celluloidlaw20_refs.l0 k z L l (l.length : Int) (i : Int) = some v := by
  intro d
  induction d with
  | zero =>
    intro i k L h hL hk
    obtain ⟨k, rfl⟩ : ∃ m, k = m + 1 := ⟨k - 1, by omega⟩
    exact ⟨_, by rw [celluloidlaw20_refs.l0, if_neg (by omega)]⟩
  | succ d ih =>
    intro i k L h hL hk
    obtain ⟨k, rfl⟩ : ∃ m, k = m + 1 := ⟨k - 1, by omega⟩
    by_cases h5 : (((rd_T43 l (i : Int)).f3).length : Int) > 500
    · exact ⟨_, by rw [celluloidlaw20_refs.l0, if_pos (by omega), if_pos (by omega), if_pos (by omega), if_pos h5]⟩
    · obtain ⟨v, hv⟩ := ih (i + 1) k (L ++ [(⟨(rd_T43 l (i : Int)).f0, (rd_T43 l (i : Int)).f1, (rd_T43 l (i : Int)).f2, (rd_T43 l (i : Int)).f3⟩ : S48)]) (by omega) (by simp; omega) (by omega)
      exact ⟨v, by rw [celluloidlaw20_refs.l0, if_pos (by omega), if_pos (by omega), if_pos (by omega), if_neg h5, if_pos (by omega), w64_id (by omega) (by omega), show (i : Int) + 1 = ((i + 1 : Nat) : Int) by omega]; exact hv⟩
theorem refs_some (l : List S43) (hl : l.length * 48 ≤ 140737488351232) (k : Nat) (hk : l.length < k) : ∃ v, celluloidlaw20_refs.f k l = some v := by
  unfold celluloidlaw20_refs.f
  exact refs_l0 l l hl l.length 0 k [] (by omega) (by simp) hk
end Go.Proofs.Ytmdfcinjmlagcaa.P
namespace Go.Proofs.Ytmdfcinjmlagcaa.P
open Go.RowKit Go.Proofs.YtmdfcinjmlagcaaW.PrintWords Go.Proofs.YtmdfcinjmlagcaaW.PrintLast Go.Proofs.YtmdfcinjmlagcaaW.PrintMore
theorem and_low (n : Int) (m : Nat) (hm : m ≤ 62) (c : Int) (hc : c = ((2 ^ m - 1 : Nat) : Int)) : Go.bits .and .i64 n c = n % ((2 ^ m : Nat) : Int) := by
  subst hc
  have hp := Nat.two_pow_pos m
  have hp2 : 2 ^ m ≤ 2 ^ 62 := Nat.pow_le_pow_right (by omega) hm
  have h1 : (BitVec.ofInt 64 ((2 ^ m - 1 : Nat) : Int)).toNat = 2 ^ m - 1 := by
    rw [BitVec.toNat_ofInt]
    generalize 2 ^ m = p at *
    have : (2 : Nat) ^ 64 = 18446744073709551616 := by decide
    rw [this]; omega
  have key : (BitVec.ofInt 64 n &&& BitVec.ofInt 64 ((2 ^ m - 1 : Nat) : Int)).toNat = (n % ((2 ^ 64 : Nat) : Int)).toNat % 2 ^ m := by
    rw [BitVec.toNat_and, BitVec.toNat_ofInt, h1, Nat.and_two_pow_sub_one_eq_mod]
  show IntKind.i64.wrap ((BitVec.ofInt 64 n &&& BitVec.ofInt 64 ((2 ^ m - 1 : Nat) : Int)).toNat : Nat) = n % ((2 ^ m : Nat) : Int)
  rw [key, IntKind.wrap_i64]
  have hdvd : ((2 ^ m : Nat) : Int) ∣ ((2 ^ 64 : Nat) : Int) := by
    rw [Int.natCast_dvd_natCast]; exact Nat.pow_dvd_pow 2 (by omega)
  have e : (((n % ((2 ^ 64 : Nat) : Int)).toNat % 2 ^ m : Nat) : Int) = n % ((2 ^ m : Nat) : Int) := by
    rw [Int.natCast_emod, Int.toNat_of_nonneg (Int.emod_nonneg _ (by decide)), Int.emod_emod_of_dvd _ hdvd]
  rw [e]
  have h0 := Int.emod_nonneg n (show ((2 ^ m : Nat) : Int) ≠ 0 by omega)
  have h2 := Int.emod_lt_of_pos n (show 0 < ((2 ^ m : Nat) : Int) by omega)
  have h62 : (2 : Nat) ^ 62 = 4611686018427387904 := by decide
  generalize n % ((2 ^ m : Nat) : Int) = z at *
  generalize 2 ^ m = p at *
  omega
theorem and511 (n : Int) : Go.bits .and .i64 n 511 = n % 512 := and_low n 9 (by omega) 511 (by decide)
theorem and255 (n : Int) : Go.bits .and .i64 n 255 = n % 256 := and_low n 8 (by omega) 255 (by decide)
/-- The place of a number. -/
def foldS (n spread : Int) : Int :=
  if spread = 0 then (if n < 0 then 0 else if n > 255 then 255 else n)
  else if spread = 1 then (if n % 512 > 255 then 511 - n % 512 else n % 512)
  else if spread = 2 then n % 256 else 0
theorem fold_eq (n s : Int) : ramp_Fold.f n s = some (foldS n s) := by
  unfold ramp_Fold.f foldS
  by_cases h0 : s = 0
  · rw [if_pos h0, if_pos h0]; congr 1; unfold mn mx; omega
  · rw [if_neg h0, if_neg h0]
    by_cases h1 : s = 1
    · rw [if_pos h1, if_pos h1, and511, w64_id (by omega) (by omega)]; congr 1; unfold mn; omega
    · rw [if_neg h1, if_neg h1]
      by_cases h2 : s = 2
      · rw [if_pos h2, if_pos h2, and255]
      · rw [if_neg h2, if_neg h2]
theorem mod_ref (n m : Int) (h0 : 0 < m) (h1 : m ≤ 1000) : celluloidref19_modulo.f n m = some (n % m) := by
  unfold celluloidref19_modulo.f
  rw [if_neg (by omega)]
  have l1 := Int.emod_nonneg n (show m ≠ 0 by omega)
  have l2 := Int.emod_lt_of_pos n h0
  by_cases hn : 0 ≤ n
  · rw [Int.tmod_eq_emod_of_nonneg hn, if_neg (by omega)]
  · have e : Int.tmod n m = -((-n) % m) := by
      have : n = -(-n) := by omega
      rw [this, Int.neg_tmod, Int.tmod_eq_emod_of_nonneg (by omega), Int.neg_neg]
    have d := Int.ediv_mul_add_emod (-n) m
    have r1 := Int.emod_nonneg (-n) (show m ≠ 0 by omega)
    have r2 := Int.emod_lt_of_pos (-n) h0
    rw [e]
    by_cases h : -((-n) % m) < 0
    · rw [if_pos h, w64_id (by omega) (by omega)]
      have : n = (m - (-n) % m) + (-((-n) / m) - 1) * m := by rw [Int.sub_mul, Int.neg_mul, Int.one_mul]; omega
      have h2 : n % m = m - (-n) % m := by
        rw [this, Int.add_mul_emod_self_right, Int.emod_eq_of_lt (by omega) (by omega), ← this]
      rw [h2]; congr 1; omega
    · rw [if_neg h]
      have hz : (-n) % m = 0 := by omega
      have : n = -((-n) / m) * m := by rw [Int.neg_mul]; omega
      have h2 : n % m = 0 := by rw [this, Int.mul_emod_left]
      rw [h2, hz]; rfl
theorem fold_ref (n s : Int) : celluloidref19_Fold.f n s = some (foldS n s) := by
  unfold celluloidref19_Fold.f foldS
  by_cases h0 : s = 0
  · rw [if_pos h0, if_pos h0]
    by_cases a : n < 0
    · rw [if_pos a, if_pos a]
    · rw [if_neg a, if_neg a]
      by_cases b : n > 255
      · rw [if_pos b, if_pos b]
      · rw [if_neg b, if_neg b]
  · rw [if_neg h0, if_neg h0]
    by_cases h1 : s = 1
    · rw [if_pos h1, if_pos h1, mod_ref n 512 (by omega) (by omega), Option.bind_some]
      by_cases a : n % 512 > 255
      · rw [if_pos a, if_pos a, w64_id (by omega) (by omega)]
      · rw [if_neg a, if_neg a]
    · rw [if_neg h1, if_neg h1]
      by_cases h2 : s = 2
      · rw [if_pos h2, if_pos h2, mod_ref n 256 (by omega) (by omega), Option.bind_some]
      · rw [if_neg h2, if_neg h2]
theorem foldS_bd (n s : Int) : 0 ≤ foldS n s ∧ foldS n s ≤ 255 := by
  unfold foldS; split
  · split
    · omega
    · split <;> omega
  · split
    · split <;> omega
    · split <;> omega
abbrev Stop := S80
abbrev st (l : List Stop) (i : Int) : Stop := rd_T80 l i
def ColS (s : Stop) : Prop := Col s.f1.f0 s.f1.f1 s.f1.f2 s.f1.f3
instance (s : Stop) : Decidable (ColS s) := by unfold ColS; infer_instance
/-- Are stops right, behind a ratio? -/
def okS : Int → List Stop → Bool
  | _, [] => true
  | a, s :: l => decide (a ≤ s.f0 ∧ s.f0 ≤ 255 ∧ ColS s) && okS s.f0 l
/-- Are stops right? -/
def rightS (l : List Stop) : Bool := okS 0 l && decide (0 < l.length)
theorem st_drop (l : List Stop) (i : Nat) (h : i < l.length) : l.drop i = st l (i : Int) :: l.drop (i + 1) := by
  rw [List.drop_eq_getElem_cons h]
  simp [st, rd_T80, List.getD_eq_getElem?_getD, h]
theorem right_l0 {l : List Stop} (hl : l.length ≤ 100) : ∀ (d i k : Nat) (a : Int), d + i = l.length → d + 1100 ≤ k → ramp_right.l0 k l a l (l.length : Int) (i : Int) = some (okS a (l.drop i) && decide (0 < l.length)) := by
  intro d
  induction d with
  | zero =>
    intro i k a h hk
    obtain ⟨k, rfl⟩ : ∃ m, k = m + 1 := ⟨k - 1, by omega⟩
    simp only [ramp_right.l0]
    rw [if_neg (by omega), List.drop_of_length_le (by omega)]
    simp only [okS, Bool.true_and]
    congr 1; rw [decide_eq_decide]; omega
  | succ d ih =>
    intro i k a h hk
    obtain ⟨k, rfl⟩ : ∃ m, k = m + 1 := ⟨k - 1, by omega⟩
    simp only [ramp_right.l0]
    rw [if_pos (by omega), if_pos (by omega), if_pos (by omega), w64_id (by omega) (by omega), show (i : Int) + 1 = ((i + 1 : Nat) : Int) by omega, st_drop l i (by omega)]
    simp only [okS]
    generalize hs : rd_T80 l (i : Int) = s
    have hs' : st l (i : Int) = s := hs
    rw [hs']
    by_cases h1 : s.f0 < a
    · rw [if_pos h1, decide_eq_false (by omega)]; rfl
    · rw [if_neg h1]
      by_cases h2 : s.f0 > 255
      · rw [if_pos h2, decide_eq_false (by omega)]; rfl
      · rw [if_neg h2, rgba_eq _ _ _ _ k (by omega), Option.bind_some]
        by_cases h3 : ColS s
        · rw [decide_eq_true (show Col _ _ _ _ from h3), if_pos rfl, ih (i + 1) k _ (by omega) (by omega), decide_eq_true (show a ≤ s.f0 ∧ s.f0 ≤ 255 ∧ ColS s from ⟨by omega, by omega, h3⟩), Bool.true_and]
        · rw [decide_eq_false (show ¬ Col _ _ _ _ from h3), if_neg (by simp), decide_eq_false (fun h => h3 h.2.2)]; rfl
theorem right_eq {l : List Stop} (hl : l.length ≤ 100) (k : Nat) (hk : 1300 ≤ k) : ramp_right.f k l = some (rightS l) := by
  unfold ramp_right.f
  exact right_l0 hl l.length 0 k 0 (by omega) (by omega)
/-- What right stops are. -/
theorem okS_at : ∀ {l : List Stop} {a : Int}, okS a l = true → ∀ i, i < l.length → a ≤ (st l (i : Int)).f0 ∧ (st l (i : Int)).f0 ≤ 255 ∧ ColS (st l (i : Int)) ∧ ∀ j, i ≤ j → j < l.length → (st l (i : Int)).f0 ≤ (st l (j : Int)).f0 := by
  intro l
  induction l with
  | nil => intro a _ i hi; simp at hi
  | cons s l ih =>
    intro a h i hi
    simp only [okS, Bool.and_eq_true, decide_eq_true_eq] at h
    obtain ⟨⟨h1, h2, h3⟩, h4⟩ := h
    have s0 : st (s :: l) ((0 : Nat) : Int) = s := rfl
    have sn : ∀ j : Nat, st (s :: l) ((j + 1 : Nat) : Int) = st l (j : Int) := by
      intro j; unfold st rd_T80; rw [Int.toNat_natCast, Int.toNat_natCast]; rfl
    cases i with
    | zero =>
      rw [s0]
      refine ⟨h1, h2, h3, fun j _ hj => ?_⟩
      cases j with
      | zero => rw [s0]; omega
      | succ j => rw [sn]; exact (ih h4 j (by simpa using hj)).1
    | succ i =>
      rw [sn]
      obtain ⟨g1, g2, g3, g4⟩ := ih h4 i (by simpa using hi)
      refine ⟨by omega, g2, g3, fun j hij hj => ?_⟩
      obtain ⟨j, rfl⟩ : ∃ m, j = m + 1 := ⟨j - 1, by omega⟩
      rw [sn]; exact g4 j (by omega) (by simpa using hj)
end Go.Proofs.Ytmdfcinjmlagcaa.P
namespace Go.Proofs.Ytmdfcinjmlagcaa.P
open Go.RowKit Go.Proofs.YtmdfcinjmlagcaaW.PrintWords Go.Proofs.YtmdfcinjmlagcaaW.PrintLast Go.Proofs.YtmdfcinjmlagcaaW.PrintMore
/-- A part of a colour, n of m on the way from a to b. -/
def mixS (a b n m : Int) : Int := a + (b - a) * n / m
theorem mix_bd {a b n m : Int} (ha : 0 ≤ a) (ha1 : a ≤ 255) (hb : 0 ≤ b) (hb1 : b ≤ 255) (hn : 0 ≤ n) (hm : 0 < m) (hnm : n ≤ m) (hm1 : m ≤ 255) :
    -65025 ≤ (b - a) * n ∧ (b - a) * n ≤ 65025 ∧ (b - a) * n / m * m ≤ (b - a) * n ∧ (b - a) * n < ((b - a) * n / m + 1) * m ∧ (a ≤ b → 0 ≤ (b - a) * n / m ∧ (b - a) * n / m ≤ b - a) ∧ (b ≤ a → b - a ≤ (b - a) * n / m ∧ (b - a) * n / m ≤ 0) := by
  have e := Int.ediv_mul_add_emod ((b - a) * n) m
  have l1 := Int.emod_nonneg ((b - a) * n) (show m ≠ 0 by omega)
  have l2 := Int.emod_lt_of_pos ((b - a) * n) hm
  refine ⟨?_, ?_, by omega, ?_, ?_, ?_⟩
  · have := Int.mul_le_mul_of_nonneg_right (show -255 ≤ b - a by omega) hn; omega
  · have := Int.mul_le_mul_of_nonneg_right (show b - a ≤ 255 by omega) hn; omega
  · rw [Int.add_mul, Int.one_mul]; omega
  · intro h
    have h0 : 0 ≤ (b - a) * n := Int.mul_nonneg (by omega) hn
    refine ⟨Int.ediv_nonneg h0 (by omega), ?_⟩
    have h1 : (b - a) * n ≤ (b - a) * m := Int.mul_le_mul_of_nonneg_left hnm (by omega)
    have : (b - a) * n / m ≤ (b - a) * m / m := Int.ediv_le_ediv hm h1
    rwa [Int.mul_ediv_cancel _ (by omega)] at this
  · intro h
    have h1 : (b - a) * m ≤ (b - a) * n := Int.mul_le_mul_of_nonpos_left (by omega) hnm
    have h2 : (b - a) * m / m ≤ (b - a) * n / m := Int.ediv_le_ediv hm h1
    rw [Int.mul_ediv_cancel _ (by omega)] at h2
    refine ⟨h2, ?_⟩
    have h3 : (b - a) * n ≤ 0 := Int.mul_nonpos_of_nonpos_of_nonneg (by omega) hn
    rcases Int.lt_or_le 0 ((b - a) * n / m) with h4 | h4
    · have : 1 * m ≤ (b - a) * n / m * m := Int.mul_le_mul_of_nonneg_right (by omega) (by omega)
      omega
    · exact h4
theorem mix_eq {a b n m : Int} (ha : 0 ≤ a) (ha1 : a ≤ 255) (hb : 0 ≤ b) (hb1 : b ≤ 255) (hn : 0 ≤ n) (hm : 0 < m) (hnm : n ≤ m) (hm1 : m ≤ 255) (k : Nat) (hk : 20 ≤ k) : ramp_mix.f k a b n m = some (mixS a b n m) := by
  obtain ⟨b1, b2, b3, b4, b5, b6⟩ := mix_bd ha ha1 hb hb1 hn hm hnm hm1
  unfold ramp_mix.f mixS
  rw [w64_id (n := b - a) (by omega) (by omega), w64_id (n := (b - a) * n) (by omega) (by omega), floor_eq (by unfold I64; omega) (by unfold I64; omega) k hk, Option.bind_some]
  unfold md fl
  rw [if_neg (by omega), if_pos hm, Int.mul_one]
  rcases Int.le_total a b with h | h
  · have := b5 h; rw [num_yes (by unfold I64; omega), w64_id (by omega) (by omega)]
  · have := b6 h; rw [num_yes (by unfold I64; omega), w64_id (by omega) (by omega)]
theorem between_l1 {a b n m : Int} (ha : 0 ≤ a) (ha1 : a ≤ 255) (hb : 0 ≤ b) (hb1 : b ≤ 255) (hn : 0 ≤ n) (hm : 0 < m) (hnm : n ≤ m) (hm1 : m ≤ 255) : ∀ (d k : Nat) (x : Int), (b - a) * n / m + d = x → x ≤ 255 → (a ≤ b → d = 0) → -255 ≤ x → d < k →
    celluloidref19_between.l1 k a b n m x = some (mixS a b n m) := by
  obtain ⟨b1, b2, b3, b4, b5, b6⟩ := mix_bd ha ha1 hb hb1 hn hm hnm hm1
  intro d
  induction d with
  | zero =>
    intro k x hx h1 h2 h3 hk
    obtain ⟨k, rfl⟩ : ∃ m, k = m + 1 := ⟨k - 1, by omega⟩
    simp only [celluloidref19_between.l1]
    have hx' : x = (b - a) * n / m := by omega
    have hr : wrap64 (a + x) = mixS a b n m := by rw [w64_id (by omega) (by omega), hx']; rfl
    have hxm : x * m ≤ (b - a) * n := by rw [hx']; exact b3
    have hxl : -65025 ≤ x * m ∧ x * m ≤ 65025 := by
      constructor
      · have := Int.mul_le_mul_of_nonneg_right h3 (show 0 ≤ m by omega); omega
      · omega
    rw [if_pos (by omega), hr]
    by_cases hba : b < a
    · rw [if_pos hba, w64_id (n := x * m) (by omega) (by omega), w64_id (n := b - a) (by omega) (by omega), w64_id (n := (b - a) * n) (by omega) (by omega), if_neg (by omega)]
    · rw [if_neg hba]
  | succ d ih =>
    intro k x hx h1 h2 h3 hk
    obtain ⟨k, rfl⟩ : ∃ m, k = m + 1 := ⟨k - 1, by omega⟩
    have hba : b < a := by
      rcases Int.lt_or_le b a with h | h
      · exact h
      · have := h2 h; omega
    simp only [celluloidref19_between.l1]
    have hlt : (b - a) * n < x * m := by
      have : ((b - a) * n / m + 1) * m ≤ x * m := Int.mul_le_mul_of_nonneg_right (by omega) (by omega)
      omega
    have hxl : -65025 ≤ x * m ∧ x * m ≤ 65025 := by
      constructor
      · have := Int.mul_le_mul_of_nonneg_right h3 (show 0 ≤ m by omega); omega
      · have := Int.mul_le_mul_of_nonneg_right h1 (show 0 ≤ m by omega); omega
    have := b6 (by omega)
    rw [if_pos (by omega), if_pos hba, w64_id (n := x * m) (by omega) (by omega), w64_id (n := b - a) (by omega) (by omega), w64_id (n := (b - a) * n) (by omega) (by omega), if_pos (by omega), w64_id (by omega) (by omega)]
    exact ih k (x - 1) (by omega) (by omega) (fun h => by omega) (by omega) (by omega)
theorem between_l0 {a b n m : Int} (ha : 0 ≤ a) (ha1 : a ≤ 255) (hb : 0 ≤ b) (hb1 : b ≤ 255) (hn : 0 ≤ n) (hm : 0 < m) (hnm : n ≤ m) (hm1 : m ≤ 255) (hab : a ≤ b) : ∀ (d k : Nat) (x : Int), x + d = (b - a) * n / m → 0 ≤ x → d + 5 < k →
    celluloidref19_between.l0 k a b n m x = some (mixS a b n m) := by
  obtain ⟨b1, b2, b3, b4, b5, b6⟩ := mix_bd ha ha1 hb hb1 hn hm hnm hm1
  have h5 := b5 hab
  intro d
  induction d with
  | zero =>
    intro k x hx h0 hk
    obtain ⟨k, rfl⟩ : ∃ m, k = m + 2 := ⟨k - 2, by omega⟩
    simp only [celluloidref19_between.l0, celluloidref19_between.j1]
    have hx' : x = (b - a) * n / m := by omega
    have hlt : (b - a) * n < (x + 1) * m := by rw [hx']; exact b4
    have hub : (x + 1) * m ≤ 256 * 255 := by
      have h1 : (x + 1) * m ≤ 256 * m := Int.mul_le_mul_of_nonneg_right (by omega) (by omega)
      omega
    rw [if_pos (by omega), if_pos (by omega), w64_id (n := x + 1) (by omega) (by omega), w64_id (n := (x + 1) * m) (by omega) (by omega), w64_id (n := b - a) (by omega) (by omega), w64_id (n := (b - a) * n) (by omega) (by omega), if_neg (by omega)]
    exact between_l1 ha ha1 hb hb1 hn hm hnm hm1 0 k x (by omega) (by omega) (fun _ => rfl) (by omega) (by omega)
  | succ d ih =>
    intro k x hx h0 hk
    obtain ⟨k, rfl⟩ : ∃ m, k = m + 1 := ⟨k - 1, by omega⟩
    simp only [celluloidref19_between.l0]
    have hle : (x + 1) * m ≤ (b - a) * n := by
      have : (x + 1) * m ≤ (b - a) * n / m * m := Int.mul_le_mul_of_nonneg_right (by omega) (by omega)
      omega
    have hlb : 0 ≤ (x + 1) * m := Int.mul_nonneg (by omega) (by omega)
    rw [if_pos (by omega), if_pos (by omega), w64_id (n := x + 1) (by omega) (by omega), w64_id (n := (x + 1) * m) (by omega) (by omega), w64_id (n := b - a) (by omega) (by omega), w64_id (n := (b - a) * n) (by omega) (by omega), if_pos (by omega)]
    exact ih k (x + 1) (by omega) (by omega) (by omega)
theorem between_eq {a b n m : Int} (ha : 0 ≤ a) (ha1 : a ≤ 255) (hb : 0 ≤ b) (hb1 : b ≤ 255) (hn : 0 ≤ n) (hm : 0 < m) (hnm : n ≤ m) (hm1 : m ≤ 255) (k : Nat) (hk : 600 ≤ k) : celluloidref19_between.f k a b n m = some (mixS a b n m) := by
  obtain ⟨b1, b2, b3, b4, b5, b6⟩ := mix_bd ha ha1 hb hb1 hn hm hnm hm1
  unfold celluloidref19_between.f
  by_cases hab : a ≤ b
  · have := b5 hab
    exact between_l0 ha ha1 hb hb1 hn hm hnm hm1 hab ((b - a) * n / m).toNat k 0 (by omega) (by omega) (by omega)
  · have := b6 (by omega)
    obtain ⟨k, rfl⟩ : ∃ m, k = m + 2 := ⟨k - 2, by omega⟩
    simp only [celluloidref19_between.l0, celluloidref19_between.j1]
    rw [if_pos (by omega), if_neg (by omega)]
    exact between_l1 ha ha1 hb hb1 hn hm hnm hm1 (-((b - a) * n / m)).toNat k 0 (by omega) (by omega) (fun h => by omega) (by omega) (by omega)
/-- The colour of a stop. -/
def colOf (s : Stop) : Int × Int × Int × Int := (s.f1.f0, s.f1.f1, s.f1.f2, s.f1.f3)
/-- Between two stops. -/
def mixCol (a b : Stop) (place : Int) : Int × Int × Int × Int :=
  (mixS a.f1.f0 b.f1.f0 (place - a.f0) (b.f0 - a.f0), mixS a.f1.f1 b.f1.f1 (place - a.f0) (b.f0 - a.f0), mixS a.f1.f2 b.f1.f2 (place - a.f0) (b.f0 - a.f0), mixS a.f1.f3 b.f1.f3 (place - a.f0) (b.f0 - a.f0))
/-- The stop that is not above the place, and all behind it are. -/
def At (l : List Stop) (place : Int) (i : Nat) : Prop := i < l.length ∧ (st l (i : Int)).f0 ≤ place ∧ ∀ j, i < j → j < l.length → place < (st l (j : Int)).f0
theorem At.unique {l : List Stop} {place : Int} {i j : Nat} (h : At l place i) (h' : At l place j) : i = j := by
  rcases Nat.lt_trichotomy i j with h1 | h1 | h1
  · have := h.2.2 j h1 h'.1; have := h'.2.1; omega
  · exact h1
  · have := h'.2.2 i h1 h.1; have := h.2.1; omega
/-- The colour there. -/
def colAt (l : List Stop) (place : Int) (i : Nat) : Int × Int × Int × Int := if i + 1 = l.length then colOf (st l (i : Int)) else mixCol (st l (i : Int)) (st l ((i + 1 : Nat) : Int)) place
section
variable {l : List Stop} {place : Int}
theorem mixes (hr : rightS l = true) {i : Nat} (h : At l place i) (hi : i + 1 < l.length) :
    let a := st l (i : Int); let b := st l ((i + 1 : Nat) : Int)
    ColS a ∧ ColS b ∧ 0 ≤ place - a.f0 ∧ 0 < b.f0 - a.f0 ∧ place - a.f0 ≤ b.f0 - a.f0 ∧ b.f0 - a.f0 ≤ 255 ∧ 0 ≤ a.f0 ∧ a.f0 ≤ 255 ∧ 0 ≤ b.f0 ∧ b.f0 ≤ 255 := by
  simp only [rightS, Bool.and_eq_true, decide_eq_true_eq] at hr
  obtain ⟨g1, g2, g3, g4⟩ := okS_at hr.1 i h.1
  obtain ⟨f1, f2, f3, f4⟩ := okS_at hr.1 (i + 1) hi
  have h2 := h.2.1
  have h3 := h.2.2 (i + 1) (by omega) hi
  exact ⟨g3, f3, by omega, by omega, by omega, by omega, by omega, by omega, by omega, by omega⟩
theorem color_j2 (hr : rightS l = true) (hl : l.length ≤ 100) (hp : 0 ≤ place) (hp1 : place ≤ 255) {i : Nat} (h : At l place i) (k : Nat) (hk : 30 ≤ k) : ramp_Color.j2 k l place (i : Int) = some (colAt l place i) := by
  obtain ⟨k, rfl⟩ : ∃ m, k = m + 1 := ⟨k - 1, by omega⟩
  have hi := h.1
  simp only [ramp_Color.j2]
  rw [if_pos (by omega), if_pos (by omega), w64_id (n := (i : Int) + 1) (by omega) (by omega), show (i : Int) + 1 = ((i + 1 : Nat) : Int) by omega]
  unfold colAt
  by_cases he : i + 1 = l.length
  · rw [if_pos (by omega), if_pos he]; rfl
  · rw [if_neg (by omega), if_neg he, if_pos (by omega), if_pos (by omega)]
    obtain ⟨c1, c2, c3, c4, c5, c6, c7, c8, c9, c10⟩ := mixes hr h (by omega)
    have e1 : rd_T80 l (i : Int) = st l (i : Int) := rfl
    have e2 : rd_T80 l ((i + 1 : Nat) : Int) = st l ((i + 1 : Nat) : Int) := rfl
    rw [e1, e2]
    generalize st l (i : Int) = a at *
    generalize st l ((i + 1 : Nat) : Int) = b at *
    unfold ColS Col at c1 c2
    rw [w64_id (n := place - a.f0) (by omega) (by omega), w64_id (n := b.f0 - a.f0) (by omega) (by omega)]
    rw [mix_eq (by omega) (by omega) (by omega) (by omega) c3 c4 c5 c6 k (by omega), Option.bind_some, mix_eq (by omega) (by omega) (by omega) (by omega) c3 c4 c5 c6 k (by omega), Option.bind_some,
      mix_eq (by omega) (by omega) (by omega) (by omega) c3 c4 c5 c6 k (by omega), Option.bind_some, mix_eq (by omega) (by omega) (by omega) (by omega) c3 c4 c5 c6 k (by omega), Option.bind_some]
    rfl
theorem color_l0 (hr : rightS l = true) (hl : l.length ≤ 100) (hp : 0 ≤ place) (hp1 : place ≤ 255) : ∀ (d i k : Nat), d + i = l.length → i < l.length → (st l (i : Int)).f0 ≤ place → d + 40 ≤ k → ∃ j, At l place j ∧ ramp_Color.l0 k l place (i : Int) = some (colAt l place j) := by
  have hr' := hr
  simp only [rightS, Bool.and_eq_true, decide_eq_true_eq] at hr'
  intro d
  induction d with
  | zero => intro i k h hi _ _; omega
  | succ d ih =>
    intro i k h hi hs hk
    obtain ⟨k, rfl⟩ : ∃ m, k = m + 1 := ⟨k - 1, by omega⟩
    simp only [ramp_Color.l0]
    rw [w64_id (n := (i : Int) + 1) (by omega) (by omega), show (i : Int) + 1 = ((i + 1 : Nat) : Int) by omega]
    by_cases h1 : i + 1 < l.length
    · rw [if_pos (by omega), if_pos (by omega)]
      have e2 : rd_T80 l ((i + 1 : Nat) : Int) = st l ((i + 1 : Nat) : Int) := rfl
      rw [e2]
      by_cases h2 : (st l ((i + 1 : Nat) : Int)).f0 ≤ place
      · rw [if_pos h2]; exact ih (i + 1) k (by omega) h1 h2 (by omega)
      · rw [if_neg h2]
        have hat : At l place i := ⟨hi, hs, fun j hj hjl => by
          have := (okS_at hr'.1 (i + 1) h1).2.2.2 j (by omega) hjl; omega⟩
        exact ⟨i, hat, color_j2 hr hl hp hp1 hat k (by omega)⟩
    · rw [if_neg (by omega)]
      have hat : At l place i := ⟨hi, hs, fun j hj hjl => by omega⟩
      exact ⟨i, hat, color_j2 hr hl hp hp1 hat k (by omega)⟩
/-- The program's colour. -/
theorem rcolor_eq (hl : l.length ≤ 100) (k : Nat) (hk : 2000 ≤ k) :
    (rightS l = true ∧ 0 ≤ place ∧ place ≤ 255 → if place ≤ (st l 0).f0 then ramp_Color.f k l place = some (colOf (st l 0)) else ∃ i, At l place i ∧ ramp_Color.f k l place = some (colAt l place i)) ∧
    (¬ (rightS l = true ∧ 0 ≤ place ∧ place ≤ 255) → ramp_Color.f k l place = some (0, 0, 0, 0)) := by
  obtain ⟨k, rfl⟩ : ∃ m, k = m + 1 := ⟨k - 1, by omega⟩
  have zero : ramp_Color.j0 (k + 1) l place true = some (0, 0, 0, 0) := by simp only [ramp_Color.j0, if_true]
  constructor
  · rintro ⟨hr, hp, hp1⟩
    have hr' := hr
    simp only [rightS, Bool.and_eq_true, decide_eq_true_eq] at hr'
    have e : ramp_Color.f (k + 1) l place = if place ≤ (st l 0).f0 then some (colOf (st l 0)) else ramp_Color.l0 k l place 0 := by
      unfold ramp_Color.f
      rw [right_eq hl (k + 1) (by omega), Option.bind_some, if_pos hr, if_neg (by omega), decide_eq_false (by omega)]
      simp only [ramp_Color.j0]
      rw [if_neg (by simp), if_pos (by omega)]; rfl
    by_cases h0 : place ≤ (st l 0).f0
    · rw [if_pos h0]; rw [if_pos h0] at e; exact e
    · rw [if_neg h0]; rw [if_neg h0] at e; rw [e]
      exact color_l0 hr hl hp hp1 l.length 0 k (by omega) (by omega) (by show (st l 0).f0 ≤ place; omega) (by omega)
  · intro h
    unfold ramp_Color.f
    rw [right_eq hl (k + 1) (by omega), Option.bind_some]
    by_cases hr : rightS l = true
    · rw [if_pos hr]
      by_cases hp : place < 0
      · rw [if_pos hp, zero]
      · rw [if_neg hp, decide_eq_true (by
          rcases Int.lt_or_le 255 place with h1 | h1
          · exact h1
          · exact absurd ⟨hr, by omega, h1⟩ h), zero]
    · rw [if_neg hr, zero]
/-- The document's colour. -/
theorem color19_l0 (hr : rightS l = true) (hl : l.length ≤ 100) (hp : 0 ≤ place) (hp1 : place ≤ 255) : ∀ (i k : Nat), i ≤ l.length → (∀ j, i ≤ j → j < l.length → place < (st l (j : Int)).f0) → (∃ j, j < i ∧ (st l (j : Int)).f0 ≤ place) → i + 700 ≤ k → ∃ j, At l place j ∧ celluloidref19_Color.l0 k l place ((i : Int) - 1) = some (colAt l place j) := by
  intro i
  induction i with
  | zero => rintro k _ _ ⟨j, hj, _⟩ _; omega
  | succ i ih =>
    rintro k hi habove ⟨j, hj, hjp⟩ hk
    obtain ⟨k, rfl⟩ : ∃ m, k = m + 1 := ⟨k - 1, by omega⟩
    simp only [celluloidref19_Color.l0]
    rw [show ((i + 1 : Nat) : Int) - 1 = (i : Int) by omega, if_pos (by omega), if_pos (by omega), if_pos (by omega)]
    have e1 : rd_T80 l (i : Int) = st l (i : Int) := rfl
    rw [e1]
    by_cases h1 : (st l (i : Int)).f0 > place
    · rw [if_pos h1, w64_id (by omega) (by omega)]
      refine ih k (by omega) (fun m hm hml => ?_) ⟨j, ?_, hjp⟩ (by omega)
      · rcases Nat.lt_or_ge i m with h | h
        · exact habove m (by omega) hml
        · have : m = i := by omega
          subst this; omega
      · rcases Nat.lt_or_ge j i with h | h
        · exact h
        · have : j = i := by omega
          subst this; omega
    · have hat : At l place i := ⟨by omega, by omega, fun m hm hml => habove m (by omega) hml⟩
      refine ⟨i, hat, ?_⟩
      rw [if_neg h1, w64_id (n := (l.length : Int) - 1) (by omega) (by omega), w64_id (n := (i : Int) + 1) (by omega) (by omega), show (i : Int) + 1 = ((i + 1 : Nat) : Int) by omega]
      unfold colAt
      by_cases he : i + 1 = l.length
      · rw [if_pos (by omega), if_pos he]; rfl
      · rw [if_neg (by omega), if_neg he, if_pos (by omega), if_pos (by omega)]
        obtain ⟨c1, c2, c3, c4, c5, c6, c7, c8, c9, c10⟩ := mixes hr hat (by omega)
        have e2 : rd_T80 l ((i + 1 : Nat) : Int) = st l ((i + 1 : Nat) : Int) := rfl
        rw [e2]
        generalize st l (i : Int) = a at *
        generalize st l ((i + 1 : Nat) : Int) = b at *
        unfold ColS Col at c1 c2
        rw [w64_id (n := place - a.f0) (by omega) (by omega), w64_id (n := b.f0 - a.f0) (by omega) (by omega)]
        rw [between_eq (by omega) (by omega) (by omega) (by omega) c3 c4 c5 c6 k (by omega), Option.bind_some, between_eq (by omega) (by omega) (by omega) (by omega) c3 c4 c5 c6 k (by omega), Option.bind_some,
          between_eq (by omega) (by omega) (by omega) (by omega) c3 c4 c5 c6 k (by omega), Option.bind_some, between_eq (by omega) (by omega) (by omega) (by omega) c3 c4 c5 c6 k (by omega), Option.bind_some]
        rfl
theorem color19_eq (hr : rightS l = true) (hl : l.length ≤ 100) (hp : 0 ≤ place) (hp1 : place ≤ 255) (k : Nat) (hk : 2000 ≤ k) :
    if place ≤ (st l 0).f0 then celluloidref19_Color.f k l place = some (colOf (st l 0)) else ∃ i, At l place i ∧ celluloidref19_Color.f k l place = some (colAt l place i) := by
  have hr' := hr
  simp only [rightS, Bool.and_eq_true, decide_eq_true_eq] at hr'
  have e : celluloidref19_Color.f k l place = if place ≤ (st l 0).f0 then some (colOf (st l 0)) else celluloidref19_Color.l0 k l place ((l.length : Int) - 1) := by
    unfold celluloidref19_Color.f
    rw [if_pos (by omega), w64_id (by omega) (by omega)]; rfl
  by_cases h0 : place ≤ (st l 0).f0
  · rw [if_pos h0]; rw [if_pos h0] at e; exact e
  · rw [if_neg h0]; rw [if_neg h0] at e; rw [e]
    exact color19_l0 hr hl hp hp1 l.length k (Nat.le_refl _) (fun j h1 h2 => by omega) ⟨0, hr'.2, by show (st l 0).f0 ≤ place; omega⟩ (by omega)
/-- Both are one. -/
theorem colors_agree (hr : rightS l = true) (hl : l.length ≤ 100) (hp : 0 ≤ place) (hp1 : place ≤ 255) (k k' : Nat) (hk : 2000 ≤ k) (hk' : 2000 ≤ k') : ∃ c, ramp_Color.f k l place = some c ∧ celluloidref19_Color.f k' l place = some c := by
  have h1 := (rcolor_eq (place := place) hl k hk).1 ⟨hr, hp, hp1⟩
  have h2 := color19_eq hr hl hp hp1 k' hk'
  by_cases h0 : place ≤ (st l 0).f0
  · rw [if_pos h0] at h1 h2; exact ⟨_, h1, h2⟩
  · rw [if_neg h0] at h1 h2
    obtain ⟨i, a1, a2⟩ := h1
    obtain ⟨j, b1, b2⟩ := h2
    have := a1.unique b1
    subst this
    exact ⟨_, a2, b2⟩
end
end Go.Proofs.Ytmdfcinjmlagcaa.P
namespace Go.Proofs.Ytmdfcinjmlagcaa.P
open Go.RowKit Go.Proofs.YtmdfcinjmlagcaaW.PrintWords Go.Proofs.YtmdfcinjmlagcaaW.PrintLast Go.Proofs.YtmdfcinjmlagcaaW.PrintMore
/-- A part that is brought to an end. -/
def rcl (n : Int) : Int := mn (mx n (-1073741824)) 1073741824
theorem cl_bd (n : Int) : -1073741824 ≤ rcl n ∧ rcl n ≤ 1073741824 := by unfold rcl mn mx; omega
theorem cl_cases (n : Int) : rcl n = if n > 1073741824 then 1073741824 else if n < -1073741824 then -1073741824 else n := by unfold rcl mn mx; omega
theorem line_eq (x y : Int) : ramp_Line.f x y = some ((rcl x + 16384) / 128) := rfl
/-- The sum of two squares. -/
def sqs (x y : Int) : Int := rcl x * rcl x + rcl y * rcl y
theorem sq_bd (x : Int) : 0 ≤ rcl x * rcl x ∧ rcl x * rcl x ≤ 1152921504606846976 := by
  obtain ⟨h0, h1⟩ := cl_bd x
  have := mul_bound (a := rcl x) (b := rcl x) (L := 1073741824) (M := 1073741824) (by omega) (by omega)
  refine ⟨?_, by omega⟩
  rcases Int.le_total 0 (rcl x) with h | h
  · exact Int.mul_nonneg h h
  · exact Int.mul_nonneg_of_nonpos_of_nonpos h h
theorem sqs_bd (x y : Int) : 0 ≤ sqs x y ∧ sqs x y ≤ 2305843009213693952 := by
  have := sq_bd x; have := sq_bd y; unfold sqs; omega
theorem isq_bd {n : Nat} (h : n ≤ 2305843009213693952) : isq n ≤ 1518500250 := isq_le (by omega)
/-- The place by a circle. -/
def circS (x y : Int) : Int := (isq (sqs x y).toNat : Int) / 64
theorem circle_eq (x y : Int) (k : Nat) (hk : 4294967296 < k) : ramp_Circle.f k x y = some (circS x y) := by
  unfold ramp_Circle.f circS
  have e : ∀ a, mn (mx a (-1073741824)) 1073741824 = rcl a := fun _ => rfl
  rw [e, e]
  have hx := sq_bd x; have hy := sq_bd y; have hs := sqs_bd x y
  rw [w64_id (n := rcl x * rcl x) (by omega) (by omega), w64_id (n := rcl y * rcl y) (by omega) (by omega), w64_id (n := rcl x * rcl x + rcl y * rcl y) (by omega) (by omega)]
  have es : rcl x * rcl x + rcl y * rcl y = sqs x y := rfl
  rw [es, root_eq _ (by omega) k hk, Option.bind_some]
  have hb := isq_bd (n := (sqs x y).toNat) (by omega)
  obtain ⟨r, hr⟩ : ∃ r, r = isq (sqs x y).toNat := ⟨_, rfl⟩
  rw [← hr] at hb ⊢
  rw [Int.tdiv_eq_ediv_of_nonneg (by omega), w64_id (by omega) (by omega)]
end Go.Proofs.Ytmdfcinjmlagcaa.P
namespace Go.Proofs.Ytmdfcinjmlagcaa.P
open Go.RowKit Go.Proofs.YtmdfcinjmlagcaaW.PrintWords Go.Proofs.YtmdfcinjmlagcaaW.PrintLast Go.Proofs.YtmdfcinjmlagcaaW.PrintMore
theorem stops_nil (l : List Stop) (k : Nat) (hk : 5 ≤ k) : api_Stop.f k l [] = some (decide (l.length = 0)) := by
  obtain ⟨k, rfl⟩ : ∃ m, k = m + 1 := ⟨k - 1, by omega⟩
  unfold api_Stop.f
  by_cases h : l.length = 0
  · obtain rfl := List.eq_nil_of_length_eq_zero h
    rw [if_pos rfl, api_Stop.l0, if_neg (by decide)]; rfl
  · rw [if_neg (by rw [List.length_nil]; omega), decide_eq_false h]
theorem stops_self_l0 (l : List Stop) (hl : l.length ≤ 1000000) : ∀ (d i k : Nat), d + i = l.length → d < k → api_Stop.l0 k l l (l.length : Int) (i : Int) = some true := by
  intro d
  induction d with
  | zero =>
    intro i k h hk
    obtain ⟨k, rfl⟩ : ∃ m, k = m + 1 := ⟨k - 1, by omega⟩
    rw [api_Stop.l0, if_neg (by omega)]
  | succ d ih =>
    intro i k h hk
    obtain ⟨k, rfl⟩ : ∃ m, k = m + 1 := ⟨k - 1, by omega⟩
    rw [api_Stop.l0, if_pos (by omega), if_pos (by omega), if_pos (by omega), if_pos (by omega), if_neg (by simp), w64_id (by omega) (by omega), show (i : Int) + 1 = ((i + 1 : Nat) : Int) by omega]
    exact ih (i + 1) k (by omega) (by omega)
theorem stops_self (l : List Stop) (hl : l.length ≤ 1000000) (k : Nat) (hk : l.length + 5 ≤ k) : api_Stop.f k l l = some true := by
  unfold api_Stop.f
  rw [if_pos rfl]
  exact stops_self_l0 l hl l.length 0 k (by omega) (by omega)
theorem same_eq (k0 c0 c1 c2 c3 m0 m1 m2 m3 m4 m5 sp : Int) (l : List Stop) (id k0' c0' c1' c2' c3' m0' m1' m2' m3' m4' m5' sp' : Int) (l' : List Stop) (id' : Int) (k : Nat) (e : Bool) (h : api_Stop.f k l l' = some e) :
    style_SameFill.f k k0 c0 c1 c2 c3 m0 m1 m2 m3 m4 m5 sp l id k0' c0' c1' c2' c3' m0' m1' m2' m3' m4' m5' sp' l' id' = some (decide (k0 = k0' ∧ (c0 = c0' ∧ c1 = c1' ∧ c2 = c2' ∧ c3 = c3') ∧ (m0 = m0' ∧ m1 = m1' ∧ m2 = m2' ∧ m3 = m3' ∧ m4 = m4' ∧ m5 = m5') ∧ sp = sp' ∧ id = id') && e) := by
  unfold style_SameFill.f
  rw [h, Option.bind_some]
  by_cases h0 : k0 = k0'
  · rw [if_pos h0]
    by_cases h1 : c0 = c0' ∧ c1 = c1' ∧ c2 = c2' ∧ c3 = c3'
    · rw [if_pos (by simp [h1])]
      by_cases h2 : m0 = m0' ∧ m1 = m1' ∧ m2 = m2' ∧ m3 = m3' ∧ m4 = m4' ∧ m5 = m5'
      · rw [if_pos (by simp [h2])]
        by_cases h3 : sp = sp'
        · rw [if_pos h3]
          by_cases h4 : id = id'
          · rw [if_pos h4, decide_eq_true ⟨h0, h1, h2, h3, h4⟩, Bool.true_and]
          · rw [if_neg h4, decide_eq_false (fun hh => h4 hh.2.2.2.2), Bool.false_and]
        · rw [if_neg h3, decide_eq_false (fun hh => h3 hh.2.2.2.1), Bool.false_and]
      · rw [if_neg (by simpa using h2), decide_eq_false (fun hh => h2 hh.2.2.1), Bool.false_and]
    · rw [if_neg (by simpa using h1), decide_eq_false (fun hh => h1 hh.2.1), Bool.false_and]
  · rw [if_neg h0, decide_eq_false (fun hh => h0 hh.1), Bool.false_and]
theorem stop_eq (r c0 c1 c2 c3 a : Int) (k : Nat) (hk : 1001 ≤ k) : style_stop.f k r c0 c1 c2 c3 a = some (decide (a ≤ r ∧ r ≤ 255 ∧ Col c0 c1 c2 c3)) := by
  unfold style_stop.f
  by_cases h1 : r ≥ a
  · rw [if_pos h1]
    by_cases h2 : r ≤ 255
    · rw [if_pos h2, rgba_eq _ _ _ _ k hk, Option.bind_some]
      congr 1; rw [decide_eq_decide]; constructor
      · intro h; exact ⟨h1, h2, h⟩
      · intro h; exact h.2.2
    · rw [if_neg h2, decide_eq_false (fun h => h2 h.2.1)]
  · rw [if_neg h1, decide_eq_false (fun h => h1 h.1)]
/-- What a gradient asks behind its stops. -/
def gradT (m0 m1 m2 m3 m4 m5 sp : Int) (n : Nat) : Bool := decide (Mat m0 m1 m2 m3 m4 m5 ∧ (0 ≤ sp ∧ sp ≤ 2) ∧ 1 ≤ n ∧ n ≤ 8)
theorem fill_l0 {l : List Stop} (hl : l.length ≤ 1000000) (k0 c0 c1 c2 c3 m0 m1 m2 m3 m4 m5 sp id : Int) : ∀ (d i k : Nat) (a : Int), d + i = l.length → d + 1100 ≤ k →
    style_RightFill.l0 k a l (l.length : Int) (i : Int) k0 c0 c1 c2 c3 m0 m1 m2 m3 m4 m5 sp l id = some (okS a (l.drop i) && gradT m0 m1 m2 m3 m4 m5 sp l.length) := by
  intro d
  induction d with
  | zero =>
    intro i k a h hk
    obtain ⟨k, rfl⟩ : ∃ m, k = m + 1 := ⟨k - 1, by omega⟩
    rw [style_RightFill.l0, if_neg (by omega), List.drop_of_length_le (by omega), matrix_eq _ _ _ _ _ _ k (by omega), Option.bind_some]
    simp only [okS, Bool.true_and]
    unfold gradT
    by_cases h1 : Mat m0 m1 m2 m3 m4 m5
    · rw [decide_eq_true h1, if_pos rfl]
      by_cases h2 : sp ≥ 0
      · rw [if_pos h2]
        by_cases h3 : sp ≤ 2
        · rw [if_pos h3]
          by_cases h4 : (l.length : Int) ≥ 1
          · rw [if_pos h4]; congr 1; rw [decide_eq_decide]; constructor
            · intro h; exact ⟨h1, ⟨h2, h3⟩, by omega, by omega⟩
            · intro h; omega
          · rw [if_neg h4, decide_eq_false (fun h => h4 (by omega))]
        · rw [if_neg h3, decide_eq_false (fun h => h3 h.2.1.2)]
      · rw [if_neg h2, decide_eq_false (fun h => h2 h.2.1.1)]
    · rw [decide_eq_false h1, if_neg (by simp), decide_eq_false (fun h => h1 h.1)]
  | succ d ih =>
    intro i k a h hk
    obtain ⟨k, rfl⟩ : ∃ m, k = m + 1 := ⟨k - 1, by omega⟩
    rw [style_RightFill.l0, if_pos (by omega), if_pos (by omega), if_pos (by omega), w64_id (by omega) (by omega), show (i : Int) + 1 = ((i + 1 : Nat) : Int) by omega, st_drop l i (by omega)]
    simp only [okS]
    generalize hs : rd_T80 l (i : Int) = s
    have hs' : st l (i : Int) = s := hs
    rw [hs', stop_eq _ _ _ _ _ _ k (by omega), Option.bind_some]
    by_cases h1 : a ≤ s.f0 ∧ s.f0 ≤ 255 ∧ ColS s
    · rw [decide_eq_true (show a ≤ s.f0 ∧ s.f0 ≤ 255 ∧ Col _ _ _ _ from h1), if_pos rfl, ih (i + 1) k _ (by omega) (by omega), decide_eq_true h1, Bool.true_and]
    · rw [decide_eq_false (show ¬ (a ≤ s.f0 ∧ s.f0 ≤ 255 ∧ Col _ _ _ _) from h1), if_neg (by simp), decide_eq_false h1]; rfl
/-- Is a fill right? -/
def fillB (k0 c0 c1 c2 c3 m0 m1 m2 m3 m4 m5 sp : Int) (l : List Stop) (id : Int) : Bool :=
  if k0 = 0 then decide (Col c0 c1 c2 c3 ∧ (m0 = 0 ∧ m1 = 0 ∧ m2 = 0 ∧ m3 = 0 ∧ m4 = 0 ∧ m5 = 0) ∧ sp = 0 ∧ id = 0 ∧ l.length = 0)
  else if k0 = 64 ∨ k0 = 65 then decide (Mat m0 m1 m2 m3 m4 m5 ∧ (0 ≤ id ∧ id < 65536) ∧ (c0 = 0 ∧ c1 = 0 ∧ c2 = 0 ∧ c3 = 0) ∧ sp = 0 ∧ l.length = 0)
  else if k0 = 16 ∨ k0 = 18 then decide ((c0 = 0 ∧ c1 = 0 ∧ c2 = 0 ∧ c3 = 0) ∧ id = 0) && (okS 0 l && gradT m0 m1 m2 m3 m4 m5 sp l.length)
  else false
theorem rightFill_eq (k0 c0 c1 c2 c3 m0 m1 m2 m3 m4 m5 sp : Int) (l : List Stop) (id : Int) (hl : l.length ≤ 1000000) (k : Nat) (hk : l.length + 2000 ≤ k) :
    style_RightFill.f k k0 c0 c1 c2 c3 m0 m1 m2 m3 m4 m5 sp l id = some (fillB k0 c0 c1 c2 c3 m0 m1 m2 m3 m4 m5 sp l id) := by
  unfold style_RightFill.f fillB
  by_cases h0 : k0 = 0
  · rw [if_pos h0, if_pos h0, rgba_eq _ _ _ _ k (by omega), Option.bind_some]
    by_cases h1 : Col c0 c1 c2 c3
    · rw [decide_eq_true h1, if_pos rfl, same_eq _ _ _ _ _ _ _ _ _ _ _ _ _ _ _ _ _ _ _ _ _ _ _ _ _ _ _ _ k _ (stops_nil l k (by omega)), Option.bind_some, ← Bool.decide_and]
      congr 1; rw [decide_eq_decide]; constructor
      · intro h; exact ⟨h1, h.1.2.2.1, h.1.2.2.2.1, h.1.2.2.2.2, h.2⟩
      · intro h; exact ⟨⟨h0, ⟨rfl, rfl, rfl, rfl⟩, h.2.1, h.2.2.1, h.2.2.2.1⟩, h.2.2.2.2⟩
    · rw [decide_eq_false h1, if_neg (by simp), decide_eq_false (fun h => h1 h.1)]
  · rw [if_neg h0, if_neg h0]
    have ep : style_picture.f k0 = some (decide (k0 = 64 ∨ k0 = 65)) := by
      unfold style_picture.f
      by_cases h : k0 = 64
      · rw [if_pos h, decide_eq_true (.inl h)]
      · rw [if_neg h]; congr 1; rw [show (k0 == 65) = decide (k0 = 65) from rfl, decide_eq_decide]; omega
    have eg : style_gradient.f k0 = some (decide (k0 = 16 ∨ k0 = 18)) := by
      unfold style_gradient.f
      by_cases h : k0 = 16
      · rw [if_pos h, decide_eq_true (.inl h)]
      · rw [if_neg h]; congr 1; rw [show (k0 == 18) = decide (k0 = 18) from rfl, decide_eq_decide]; omega
    rw [ep, Option.bind_some]
    by_cases h1 : k0 = 64 ∨ k0 = 65
    · rw [decide_eq_true h1, if_pos rfl, if_pos h1, matrix_eq _ _ _ _ _ _ k (by omega), Option.bind_some]
      by_cases h2 : Mat m0 m1 m2 m3 m4 m5
      · rw [decide_eq_true h2, if_pos rfl]
        by_cases h3 : id ≥ 0
        · rw [if_pos h3]
          by_cases h4 : id < 65536
          · rw [if_pos h4, same_eq _ _ _ _ _ _ _ _ _ _ _ _ _ _ _ _ _ _ _ _ _ _ _ _ _ _ _ _ k _ (stops_nil l k (by omega)), Option.bind_some, ← Bool.decide_and]
            congr 1; rw [decide_eq_decide]; constructor
            · intro h; exact ⟨h2, ⟨h3, h4⟩, h.1.2.1, h.1.2.2.2.1, h.2⟩
            · intro h; exact ⟨⟨rfl, h.2.2.1, ⟨rfl, rfl, rfl, rfl, rfl, rfl⟩, h.2.2.2.1, rfl⟩, h.2.2.2.2⟩
          · rw [if_neg h4, decide_eq_false (fun h => h4 h.2.1.2)]
        · rw [if_neg h3, decide_eq_false (fun h => h3 h.2.1.1)]
      · rw [decide_eq_false h2, if_neg (by simp), decide_eq_false (fun h => h2 h.1)]
    · rw [decide_eq_false h1, if_neg (by simp), if_neg h1, eg, Option.bind_some]
      by_cases h2 : k0 = 16 ∨ k0 = 18
      · rw [decide_eq_true h2, if_pos rfl, if_pos h2, same_eq _ _ _ _ _ _ _ _ _ _ _ _ _ _ _ _ _ _ _ _ _ _ _ _ _ _ _ _ k _ (stops_self l hl k (by omega)), Option.bind_some, Bool.and_true]
        by_cases h3 : (c0 = 0 ∧ c1 = 0 ∧ c2 = 0 ∧ c3 = 0) ∧ id = 0
        · rw [decide_eq_true h3, if_pos (decide_eq_true ⟨rfl, h3.1, ⟨rfl, rfl, rfl, rfl, rfl, rfl⟩, rfl, h3.2⟩), Bool.true_and]
          exact fill_l0 hl k0 c0 c1 c2 c3 m0 m1 m2 m3 m4 m5 sp id l.length 0 k 0 (by omega) (by omega)
        · rw [decide_eq_false h3, if_neg (by rw [decide_eq_true_eq]; exact fun hh => h3 ⟨hh.2.1, hh.2.2.2.2⟩), Bool.false_and]
      · rw [decide_eq_false h2, if_neg (by simp), if_neg h2]
theorem fill08_l0 {l : List Stop} (hl : l.length ≤ 1000000) (k0 c0 c1 c2 c3 m0 m1 m2 m3 m4 m5 sp id : Int) : ∀ (d i k : Nat) (a : Int), d + i = l.length → 0 ≤ a → (0 < i → a = (st l ((i - 1 : Nat) : Int)).f0) → (i = 0 → a = 0) → d + 1100 ≤ k →
    celluloidref08_Fill.l0 k (i : Int) k0 c0 c1 c2 c3 m0 m1 m2 m3 m4 m5 sp l id = some (okS a (l.drop i) && (decide ((c0 = 0 ∧ c1 = 0 ∧ c2 = 0 ∧ c3 = 0) ∧ id = 0) && gradT m0 m1 m2 m3 m4 m5 sp l.length)) := by
  intro d
  induction d with
  | zero =>
    intro i k a h ha h1 h2 hk
    obtain ⟨k, rfl⟩ : ∃ m, k = m + 1 := ⟨k - 1, by omega⟩
    rw [celluloidref08_Fill.l0, if_neg (by omega), List.drop_of_length_le (by omega), matrix07_eq, Option.bind_some]
    simp only [okS, Bool.true_and]
    unfold gradT
    rw [← Bool.decide_and]
    by_cases g1 : c0 = 0 ∧ c1 = 0 ∧ c2 = 0 ∧ c3 = 0
    · rw [if_pos (by simp [g1])]
      by_cases g2 : id = 0
      · rw [if_pos g2]
        by_cases g3 : sp ≥ 0
        · rw [if_pos g3]
          by_cases g4 : sp < 3
          · rw [if_pos g4]
            by_cases g5 : (l.length : Int) > 0
            · rw [if_pos g5]
              by_cases g6 : (l.length : Int) < 9
              · rw [if_pos g6]; congr 1; rw [decide_eq_decide]; constructor
                · intro hh; exact ⟨⟨g1, g2⟩, hh, ⟨g3, by omega⟩, by omega, by omega⟩
                · intro hh; exact hh.2.1
              · rw [if_neg g6, decide_eq_false (fun hh => g6 (by omega))]
            · rw [if_neg g5, decide_eq_false (fun hh => g5 (by omega))]
          · rw [if_neg g4, decide_eq_false (fun hh => g4 (by omega))]
        · rw [if_neg g3, decide_eq_false (fun hh => g3 hh.2.2.1.1)]
      · rw [if_neg g2, decide_eq_false (fun hh => g2 hh.1.2)]
    · rw [if_neg (by simpa using g1), decide_eq_false (fun hh => g1 hh.1.1)]
  | succ d ih =>
    intro i k a h ha hp hz hk
    obtain ⟨k, rfl⟩ : ∃ m, k = m + 1 := ⟨k - 1, by omega⟩
    have hnext : ∀ a', a' = (st l (i : Int)).f0 → 0 ≤ a' → celluloidref08_Fill.l0 k ((i + 1 : Nat) : Int) k0 c0 c1 c2 c3 m0 m1 m2 m3 m4 m5 sp l id = some (okS a' (l.drop (i + 1)) && (decide ((c0 = 0 ∧ c1 = 0 ∧ c2 = 0 ∧ c3 = 0) ∧ id = 0) && gradT m0 m1 m2 m3 m4 m5 sp l.length)) :=
      fun a' e1 e2 => ih (i + 1) k a' (by omega) e2 (fun _ => by simpa using e1) (fun h => by omega) (by omega)
    rw [celluloidref08_Fill.l0, if_pos (by omega), if_pos (by omega), w64_id (n := (i : Int) + 1) (by omega) (by omega), show (i : Int) + 1 = ((i + 1 : Nat) : Int) by omega, st_drop l i (by omega)]
    simp only [okS]
    have hs : st l (i : Int) = rd_T80 l (i : Int) := rfl
    rw [← hs]
    generalize (decide ((c0 = 0 ∧ c1 = 0 ∧ c2 = 0 ∧ c3 = 0) ∧ id = 0) && gradT m0 m1 m2 m3 m4 m5 sp l.length) = T at *
    generalize st l (i : Int) = s at *
    have last : ((celluloidref07_RGBA.f k s.f1.f0 s.f1.f1 s.f1.f2 s.f1.f3).bind fun t => if t = true then celluloidref08_Fill.l0 k ((i + 1 : Nat) : Int) k0 c0 c1 c2 c3 m0 m1 m2 m3 m4 m5 sp l id else some false) = some (decide (ColS s) && okS s.f0 (l.drop (i + 1)) && T) ∨ s.f0 < 0 := by
      rcases Int.lt_or_le s.f0 0 with hn | hn
      · exact .inr hn
      · left
        rw [rgba07_eq _ _ _ _ k (by omega), Option.bind_some]
        by_cases h3 : ColS s
        · rw [decide_eq_true (show Col _ _ _ _ from h3), if_pos rfl, hnext _ rfl hn, decide_eq_true h3, Bool.true_and]
        · rw [decide_eq_false (show ¬ Col _ _ _ _ from h3), if_neg (by simp), decide_eq_false h3]; rfl
    by_cases h1 : s.f0 < 0
    · rw [if_pos h1, decide_eq_false (by omega)]; rfl
    · rw [if_neg h1]
      have last := last.resolve_right h1
      by_cases h2 : s.f0 > 255
      · rw [if_pos h2, decide_eq_false (by omega)]; rfl
      · rw [if_neg h2]
        by_cases hi : (i : Int) > 0
        · rw [if_pos hi, w64_id (by omega) (by omega), if_pos (by omega), if_pos (by omega)]
          have e := hp (by omega)
          have e1 : (i : Int) - 1 = ((i - 1 : Nat) : Int) := by omega
          rw [e1]
          have e2 : rd_T80 l ((i - 1 : Nat) : Int) = st l ((i - 1 : Nat) : Int) := rfl
          rw [e2, ← e]
          by_cases h4 : s.f0 < a
          · rw [if_pos h4, decide_eq_false (by omega)]; rfl
          · rw [if_neg h4, last]
            by_cases h3 : ColS s
            · rw [decide_eq_true h3, decide_eq_true (show a ≤ s.f0 ∧ s.f0 ≤ 255 ∧ ColS s from ⟨by omega, by omega, h3⟩)]
            · rw [decide_eq_false h3, decide_eq_false (show ¬ (a ≤ s.f0 ∧ s.f0 ≤ 255 ∧ ColS s) from fun h => h3 h.2.2)]
        · rw [if_neg hi, last]
          have e := hz (by omega)
          by_cases h3 : ColS s
          · rw [decide_eq_true h3, decide_eq_true (show a ≤ s.f0 ∧ s.f0 ≤ 255 ∧ ColS s from ⟨by omega, by omega, h3⟩)]
          · rw [decide_eq_false h3, decide_eq_false (show ¬ (a ≤ s.f0 ∧ s.f0 ≤ 255 ∧ ColS s) from fun h => h3 h.2.2)]
theorem fill08_eq (k0 c0 c1 c2 c3 m0 m1 m2 m3 m4 m5 sp : Int) (l : List Stop) (id : Int) (hl : l.length ≤ 1000000) (k : Nat) (hk : l.length + 2000 ≤ k) :
    celluloidref08_Fill.f k k0 c0 c1 c2 c3 m0 m1 m2 m3 m4 m5 sp l id = some (fillB k0 c0 c1 c2 c3 m0 m1 m2 m3 m4 m5 sp l id) := by
  obtain ⟨k, rfl⟩ : ∃ m, k = m + 2 := ⟨k - 2, by omega⟩
  unfold celluloidref08_Fill.f fillB
  by_cases h0 : k0 = 0
  · rw [if_pos h0, if_pos h0]
    by_cases g1 : m0 = 0 ∧ m1 = 0 ∧ m2 = 0 ∧ m3 = 0 ∧ m4 = 0 ∧ m5 = 0
    · rw [if_pos (by simp [g1])]
      by_cases g2 : sp = 0
      · rw [if_pos g2]
        by_cases g3 : id = 0
        · rw [if_pos g3]
          by_cases g4 : (l.length : Int) = 0
          · rw [if_pos g4, rgba07_eq _ _ _ _ _ (by omega), Option.bind_some]
            congr 1; rw [decide_eq_decide]; constructor
            · intro h; exact ⟨h, g1, g2, g3, by omega⟩
            · intro h; exact h.1
          · rw [if_neg g4, decide_eq_false (fun h => g4 (by omega))]
        · rw [if_neg g3, decide_eq_false (fun h => g3 h.2.2.2.1)]
      · rw [if_neg g2, decide_eq_false (fun h => g2 h.2.2.1)]
    · rw [if_neg (by simpa using g1), decide_eq_false (fun h => g1 h.2.1)]
  · rw [if_neg h0, if_neg h0]
    have pic : k0 = 64 ∨ k0 = 65 → celluloidref08_Fill.j0 (k + 2) k0 true k0 c0 c1 c2 c3 m0 m1 m2 m3 m4 m5 sp l id = some (decide (Mat m0 m1 m2 m3 m4 m5 ∧ (0 ≤ id ∧ id < 65536) ∧ (c0 = 0 ∧ c1 = 0 ∧ c2 = 0 ∧ c3 = 0) ∧ sp = 0 ∧ l.length = 0)) := by
      intro _
      rw [celluloidref08_Fill.j0, if_pos rfl]
      by_cases g1 : c0 = 0 ∧ c1 = 0 ∧ c2 = 0 ∧ c3 = 0
      · rw [if_pos (by simp [g1])]
        by_cases g2 : sp = 0
        · rw [if_pos g2]
          by_cases g3 : (l.length : Int) = 0
          · rw [if_pos g3]
            by_cases g4 : id ≥ 0
            · rw [if_pos g4]
              by_cases g5 : id < 65536
              · rw [if_pos g5, matrix07_eq, Option.bind_some]
                congr 1; rw [decide_eq_decide]; constructor
                · intro h; exact ⟨h, ⟨g4, g5⟩, g1, g2, by omega⟩
                · intro h; exact h.1
              · rw [if_neg g5, decide_eq_false (fun h => g5 h.2.1.2)]
            · rw [if_neg g4, decide_eq_false (fun h => g4 h.2.1.1)]
          · rw [if_neg g3, decide_eq_false (fun h => g3 (by omega))]
        · rw [if_neg g2, decide_eq_false (fun h => g2 h.2.2.2.1)]
      · rw [if_neg (by simpa using g1), decide_eq_false (fun h => g1 h.2.2.1)]
    have gra : ∀ b : Bool, b = decide (k0 = 16 ∨ k0 = 18) → celluloidref08_Fill.j1 (k + 1) b k0 c0 c1 c2 c3 m0 m1 m2 m3 m4 m5 sp l id = some (if k0 = 16 ∨ k0 = 18 then decide ((c0 = 0 ∧ c1 = 0 ∧ c2 = 0 ∧ c3 = 0) ∧ id = 0) && (okS 0 l && gradT m0 m1 m2 m3 m4 m5 sp l.length) else false) := by
      rintro b rfl
      rw [celluloidref08_Fill.j1]
      by_cases h : k0 = 16 ∨ k0 = 18
      · rw [if_pos (decide_eq_true h), if_pos h]
        have e := fill08_l0 hl k0 c0 c1 c2 c3 m0 m1 m2 m3 m4 m5 sp id l.length 0 k 0 (by omega) (by omega) (fun h => by omega) (fun _ => rfl) (by omega)
        rw [List.drop_zero] at e
        refine Eq.trans e ?_
        congr 1
        generalize okS 0 l = x
        generalize decide ((c0 = 0 ∧ c1 = 0 ∧ c2 = 0 ∧ c3 = 0) ∧ id = 0) = y
        generalize gradT m0 m1 m2 m3 m4 m5 sp l.length = z
        cases x <;> cases y <;> cases z <;> rfl
      · rw [if_neg (by simpa using h), if_neg h]
    have non : ¬ (k0 = 64 ∨ k0 = 65) → celluloidref08_Fill.j0 (k + 2) k0 false k0 c0 c1 c2 c3 m0 m1 m2 m3 m4 m5 sp l id = some (if k0 = 16 ∨ k0 = 18 then decide ((c0 = 0 ∧ c1 = 0 ∧ c2 = 0 ∧ c3 = 0) ∧ id = 0) && (okS 0 l && gradT m0 m1 m2 m3 m4 m5 sp l.length) else false) := by
      intro _
      rw [celluloidref08_Fill.j0, if_neg (by simp)]
      by_cases h : k0 = 16
      · rw [if_pos h]; exact gra _ (by rw [show (k0 == 16) = decide (k0 = 16) from rfl, decide_eq_decide]; omega)
      · rw [if_neg h]; exact gra _ (by rw [show (k0 == 18) = decide (k0 = 18) from rfl, decide_eq_decide]; omega)
    by_cases h1 : k0 = 64 ∨ k0 = 65
    · rw [if_pos h1]
      by_cases h2 : k0 = 64
      · rw [if_pos h2, show (k0 == 64) = true by simp [h2]]; exact pic h1
      · rw [if_neg h2, show (k0 == 65) = true by simp; omega]; exact pic h1
    · rw [if_neg h1, if_neg (by omega), show (k0 == 65) = false by simp; omega]; exact non h1
end Go.Proofs.Ytmdfcinjmlagcaa.P
namespace Go.Proofs.Ytmdfcinjmlagcaa.Pure
open Go.RowKit Go.Proofs.Ytmdfcinjmlagcaa.P Go.Proofs.YtmdfcinjmlagcaaW.PrintWords Go.Proofs.YtmdfcinjmlagcaaW.PrintLast Go.Proofs.YtmdfcinjmlagcaaW.PrintMore
abbrev Pix := S23
abbrev Bmp := S43
def Rp (x : Pix) : Prop := Fnt x.f0 x.f1 x.f2 x.f3
theorem pfaint_eq (r g b a : Int) (k : Nat) (hk : 1001 ≤ k) : pixel_Right_1.f k r g b a = some (!(decide (Fnt r g b a))) := by
  unfold pixel_Right_1.f pixel_faint.f
  rw [rgba_eq _ _ _ _ k hk, Option.bind_some]
  by_cases h : Col r g b a
  · rw [decide_eq_true h, if_pos rfl, Option.bind_some]
    have e : (mx (mx r g) b ≤ a) ↔ Fnt r g b a := by
      unfold Fnt mx
      constructor
      · intro z; exact ⟨h, by omega, by omega, by omega⟩
      · rintro ⟨_, z1, z2, z3⟩; omega
    rw [decide_eq_decide.mpr e]
  · rw [decide_eq_false h, if_neg (by simp), Option.bind_some, decide_eq_false (fun hh : Fnt r g b a => h hh.1)]
theorem rdP (l : List Pix) (i : Nat) (h : i < l.length) : rd_T23 l (i : Int) = l[i] := by
  unfold rd_T23
  rw [Int.toNat_natCast, List.getD_eq_getElem?_getD, List.getElem?_eq_getElem h, Option.getD_some]
theorem all_spec (l : List Pix) (hl : l.length ≤ 4096) : ∀ (d i k : Nat), i + d = l.length → d + 1100 ≤ k → ∃ v, api_RGBA_70.l0 k l (l.length : Int) (i : Int) = some v ∧ ((∀ x ∈ l.drop i, Rp x) → v = -1) ∧ (¬ (∀ x ∈ l.drop i, Rp x) → 0 ≤ v) := by
  intro d
  induction d with
  | zero =>
    intro i k h hk
    obtain ⟨k, rfl⟩ : ∃ m, k = m + 1 := ⟨k - 1, by omega⟩
    refine ⟨-1, by rw [api_RGBA_70.l0, if_neg (by omega)], fun _ => rfl, fun hn => absurd (fun x hx => ?_) hn⟩
    rw [List.drop_of_length_le (by omega)] at hx
    cases hx
  | succ d ih =>
    intro i k h hk
    obtain ⟨k, rfl⟩ : ∃ m, k = m + 1 := ⟨k - 1, by omega⟩
    have hi : i < l.length := by omega
    rw [api_RGBA_70.l0, if_pos (by omega), if_pos (by omega), if_pos (by omega), pfaint_eq _ _ _ _ k (by omega), Option.bind_some, rdP l i hi, List.drop_eq_getElem_cons hi]
    by_cases hp : Rp l[i]
    · obtain ⟨v, hv, h1, h2⟩ := ih (i + 1) k (by omega) (by omega)
      have e : decide (Fnt l[i].f0 l[i].f1 l[i].f2 l[i].f3) = true := decide_eq_true hp
      have hw : wrap64 ((i : Int) + 1) = ((i + 1 : Nat) : Int) := by rw [w64_id (by omega) (by omega)]; rfl
      rw [e, if_neg (by simp), hw]
      refine ⟨v, hv, fun z => h1 (fun x hx => z x (List.mem_cons_of_mem _ hx)), fun z => h2 (fun y => z (fun x hx => ?_))⟩
      rcases List.mem_cons.mp hx with rfl | hx
      · exact hp
      · exact y x hx
    · have e : decide (Fnt l[i].f0 l[i].f1 l[i].f2 l[i].f3) = false := decide_eq_false hp
      rw [e, if_pos (by simp)]
      exact ⟨i, rfl, fun z => absurd (z _ List.mem_cons_self) hp, fun _ => by omega⟩
/-- A bitmap that is right. -/
def Rt (id w h : Int) (l : List Pix) : Prop := (0 ≤ id ∧ id < 65536) ∧ (1 ≤ w ∧ w ≤ 64) ∧ (1 ≤ h ∧ h ≤ 64) ∧ (l.length : Int) = w * h ∧ ∀ x ∈ l, Rp x
theorem whb {w h : Int} (hw : 1 ≤ w ∧ w ≤ 64) (hh : 1 ≤ h ∧ h ≤ 64) : 1 ≤ w * h ∧ w * h ≤ 4096 :=
  ⟨by have := Int.mul_le_mul hw.1 hh.1 (by omega) (by omega); omega, by have := Int.mul_le_mul hw.2 hh.2 (by omega) (by omega); omega⟩
theorem right_spec (id w h : Int) (l : List Pix) (k : Nat) (hk : 6000 ≤ k) : ∃ v, pixel_Right.f k id w h l = some v ∧ (v = true → Rt id w h l) ∧ (Rt id w h l → v = true) := by
  have no : ¬ Rt id w h l → ∃ v, (some false : Option Bool) = some v ∧ (v = true → Rt id w h l) ∧ (Rt id w h l → v = true) := fun hn => ⟨false, rfl, (fun z => by cases z), fun z => absurd z hn⟩
  unfold pixel_Right.f
  by_cases h1 : id ≥ 0
  · rw [if_pos h1]
    by_cases h2 : id < 65536
    · rw [if_pos h2]
      by_cases h3 : w ≥ 1
      · rw [if_pos h3]
        by_cases h4 : w ≤ 64
        · rw [if_pos h4]
          by_cases h5 : h ≥ 1
          · rw [if_pos h5]
            by_cases h6 : h ≤ 64
            · have hb := whb ⟨h3, h4⟩ ⟨h5, h6⟩
              rw [if_pos h6, w64_id (n := w * h) (by omega) (by omega)]
              by_cases h7 : (l.length : Int) = w * h
              · obtain ⟨v, hv, z1, z2⟩ := all_spec l (by omega) l.length 0 k (by omega) (by omega)
                rw [List.drop_zero] at z1 z2
                have e : api_RGBA_70.f k l = some v := hv
                unfold api_RGBA_41.f
                rw [if_pos h7, e, Option.bind_some, Option.bind_some]
                refine ⟨_, rfl, fun z => ?_, fun z => ?_⟩
                · refine ⟨⟨h1, h2⟩, ⟨h3, h4⟩, ⟨h5, h6⟩, h7, ?_⟩
                  by_cases y : ∀ x ∈ l, Rp x
                  · exact y
                  · have := z2 y
                    rw [decide_eq_true (by omega)] at z
                    cases z
                · rw [z1 z.2.2.2.2]; rfl
              · rw [if_neg h7]; exact no (fun z => h7 z.2.2.2.1)
            · rw [if_neg h6]; exact no (fun z => h6 z.2.2.1.2)
          · rw [if_neg h5]; exact no (fun z => h5 z.2.2.1.1)
        · rw [if_neg h4]; exact no (fun z => h4 z.2.1.2)
      · rw [if_neg h3]; exact no (fun z => h3 z.2.1.1)
    · rw [if_neg h2]; exact no (fun z => h2 z.1.2)
  · rw [if_neg h1]; exact no (fun z => h1 z.1.1)
theorem right_eq {id w h : Int} {l : List Pix} (R : Rt id w h l) (k : Nat) (hk : 6000 ≤ k) : pixel_Right.f k id w h l = some true := by
  obtain ⟨v, e, _, z⟩ := right_spec id w h l k hk
  rw [e, z R]
/-- A pixel, by its number. -/
def pxl (l : List Pix) (n : Int) : Int × Int × Int × Int := ((rd_T23 l n).f0, (rd_T23 l n).f1, (rd_T23 l n).f2, (rd_T23 l n).f3)
theorem ix_bd {w h x y : Int} (hw : 1 ≤ w ∧ w ≤ 64) (hh : 1 ≤ h ∧ h ≤ 64) (hx : 0 ≤ x ∧ x < w) (hy : 0 ≤ y ∧ y < h) : 0 ≤ y * w ∧ y * w + x < w * h ∧ wrap64 (wrap64 (y * w) + x) = y * w + x := by
  have b := whb hw hh
  have h0 : 0 ≤ y * w := Int.mul_nonneg hy.1 (by omega)
  have h1 : y * w ≤ (h - 1) * w := Int.mul_le_mul_of_nonneg_right (by omega) (by omega)
  have h2 : (h - 1) * w = w * h - w := by rw [Int.sub_mul, Int.one_mul, Int.mul_comm h w]
  refine ⟨h0, by omega, ?_⟩
  rw [w64_id (n := y * w) (by omega) (by omega), w64_id (by omega) (by omega)]
theorem pixel_eq {id w h : Int} {l : List Pix} (R : Rt id w h l) {x y : Int} (hx : 0 ≤ x ∧ x < w) (hy : 0 ≤ y ∧ y < h) (k : Nat) (hk : 6000 ≤ k) : pixel_Pixel.f k id w h l x y = some (pxl l (y * w + x)) := by
  obtain ⟨i0, i1, i2⟩ := ix_bd R.2.1 R.2.2.1 hx hy
  have hl := R.2.2.2.1
  unfold pixel_Pixel.f
  rw [right_eq R k hk, Option.bind_some, if_pos rfl, if_neg (by omega), if_neg (by omega), if_neg (by omega), if_neg (by omega), i2, if_pos (by omega), if_pos (by omega)]
  rfl
theorem tile_eq {n m : Int} (hm : 1 ≤ m ∧ m ≤ 64) : paint_tile.f n m = some (n % m) := by
  unfold paint_tile.f
  have h1 := Int.tmod_lt_of_pos n (b := m) (by omega)
  have h2 := Int.lt_tmod_of_pos n (b := m) (by omega)
  have h3 : Int.tmod n m % m = n % m := by
    have e := Int.tmod_add_mul_tdiv n m
    have g : (Int.tmod n m + m * Int.tdiv n m) % m = Int.tmod n m % m := Int.add_mul_emod_self_left _ _ _
    rw [e] at g
    exact g.symm
  rw [if_neg (by omega), if_neg (by omega), w64_id (by omega) (by omega), Int.tmod_eq_emod_of_nonneg (by omega), Int.add_emod_right, h3]
/-- Where in a bitmap a point lies, by the fill's kind. -/
def wh (kd n m : Int) : Int := if kd = 64 then n % m else mn (mx n 0) (m - 1)
theorem wh_bd' {kd n m : Int} (hm : 1 ≤ m ∧ m ≤ 64) : 0 ≤ wh kd n m ∧ wh kd n m < m := by
  unfold wh
  by_cases c : kd = 64
  · rw [if_pos c]; exact ⟨Int.emod_nonneg _ (by omega), Int.emod_lt_of_pos _ (by omega)⟩
  · rw [if_neg c]; unfold mn mx; omega
theorem pxl_fnt {l : List Pix} (h : ∀ x ∈ l, Rp x) {n : Int} (h0 : 0 ≤ n) (h1 : n < (l.length : Int)) : Fnt (pxl l n).1 (pxl l n).2.1 (pxl l n).2.2.1 (pxl l n).2.2.2 := by
  obtain ⟨m, rfl⟩ := Int.eq_ofNat_of_zero_le h0
  have hm : m < l.length := by omega
  unfold pxl
  rw [rdP l m hm]
  exact h _ (List.getElem_mem hm)
theorem fl_neg (p : Int) {c : Int} (h : ¬ 0 < c) : fl p c = (-p) / (-c) := by unfold fl; rw [if_neg h]
theorem fl_pos (p : Int) {c : Int} (h : 0 < c) : fl p c = p / c := by unfold fl; rw [if_pos h]
theorem backR_eq (a b c d x y p q : Int) (k : Nat) (hk : 10 ≤ k) : celluloidref14_Back.f k a b c d x y p q = some (bkS a b c d x y p q) := by
  obtain ⟨k, rfl⟩ : ∃ m, k = m + 1 := ⟨k - 1, by omega⟩
  have no : celluloidref14_Back.j0 (k + 1) true a b c d x y p q = some (0, 0, false) := by rw [celluloidref14_Back.j0, if_pos rfl]
  unfold celluloidref14_Back.f bkS
  rw [matrix07_eq, Option.bind_some]
  by_cases h : Mat a b c d x y
  · rw [decide_eq_true h, if_pos rfl, far_eq _ _ _ (by omega), Option.bind_some]
    by_cases h2 : Wi p q 16777216
    · have hdb := det_bd h
      rw [decide_eq_false (fun hh => hh h2), if_neg (by simp), hdb.2.2.2.1, hdb.2.2.2.2]
      by_cases h3 : det a b c d = 0
      · have : (a * d == b * c) = true := by unfold det at h3; simp; omega
        rw [this, no, if_neg (fun hh => hh.2.2 h3)]
      · have hne : (a * d == b * c) = false := by unfold det at h3; simp; omega
        rw [hne, celluloidref14_Back.j0, if_neg (by simp), if_pos (show Mat a b c d x y ∧ Wi p q 16777216 ∧ det a b c d ≠ 0 from ⟨h, h2, h3⟩)]
        obtain ⟨ha, hb, hc, hd, hx, hy⟩ := h
        have h2' : Wi q p 16777216 := by unfold Wi at *; omega
        have b1 := bk1_bd hd hc hx hy h2
        have b2 := bk1_bd ha hb hy hx h2'
        rw [Int.mul_comm 20480 p, Int.mul_comm 20480 q, Int.mul_comm 65536 x, Int.mul_comm 65536 y, hdb.2.2.1, b1.2.2, b2.2.2]
        by_cases hs : det a b c d < 0
        · rw [if_pos hs, w64_id (n := -bk1 d c x y p q) (by omega) (by omega), w64_id (n := -bk1 a b y x q p) (by omega) (by omega), w64_id (n := -det a b c d) (by omega) (by omega), floorR_eq (by omega) (by omega) (by omega), floorR_eq (by omega) (by omega) (by omega), fl_neg _ (by omega), fl_neg _ (by omega)]; rfl
        · rw [if_neg hs, floorR_eq (by omega) (by omega) (by omega), floorR_eq (by omega) (by omega) (by omega), fl_pos _ (by omega), fl_pos _ (by omega)]; rfl
    · rw [decide_eq_true h2, if_pos rfl, no, if_neg (fun hh => h2 hh.2.1)]
  · rw [decide_eq_false h, if_neg (by simp), no, if_neg (fun hh => h hh.1)]
abbrev RB := S48
def toR (b : Bmp) : RB := ⟨b.f0, b.f1, b.f2, b.f3⟩
theorem rdB (l : List Bmp) (i : Nat) (h : i < l.length) : rd_T43 l (i : Int) = l[i] := by
  unfold rd_T43
  rw [Int.toNat_natCast, List.getD_eq_getElem?_getD, List.getElem?_eq_getElem h, Option.getD_some]
theorem rdR (l : List Bmp) (i : Nat) (h : i < l.length) : rd_T48 (l.map toR) (i : Int) = toR l[i] := by
  unfold rd_T48
  rw [Int.toNat_natCast, List.getD_eq_getElem?_getD, List.getElem?_map, List.getElem?_eq_getElem h]; rfl
theorem refs_l0_is (z l : List Bmp) (hl : l.length * 48 ≤ 140737488351232) : ∀ (d i k : Nat) (L : List RB) (v : List RB × Bool), i + d = l.length → celluloidlaw20_refs.l0 k z L l (l.length : Int) (i : Int) = some v → v.2 = true → v.1 = L ++ (l.drop i).map toR ∧ z.length ≤ 10 ∧ ∀ b ∈ l.drop i, b.f3.length ≤ 500 := by
  intro d
  induction d with
  | zero =>
    intro i k L v h hv ht
    cases k with
    | zero => simp [celluloidlaw20_refs.l0] at hv
    | succ k =>
      rw [celluloidlaw20_refs.l0, if_neg (by omega)] at hv
      have hv := Option.some.inj hv
      subst hv
      have ht := of_decide_eq_true ht
      rw [List.drop_of_length_le (by omega)]
      exact ⟨by simp, by omega, by simp⟩
  | succ d ih =>
    intro i k L v h hv ht
    have hi : i < l.length := by omega
    cases k with
    | zero => simp [celluloidlaw20_refs.l0] at hv
    | succ k =>
      rw [celluloidlaw20_refs.l0, if_pos (by omega), if_pos (by omega), if_pos (by omega), rdB l i hi] at hv
      by_cases h5 : (l[i].f3.length : Int) > 500
      · rw [if_pos h5] at hv
        have hv := Option.some.inj hv
        subst hv
        cases ht
      · rw [if_neg h5] at hv
        by_cases hL : L.length < 2932031007402
        · rw [if_pos hL, w64_id (by omega) (by omega), show (i : Int) + 1 = ((i + 1 : Nat) : Int) by omega] at hv
          obtain ⟨e1, e2, e3⟩ := ih (i + 1) k _ v (by omega) hv ht
          rw [List.drop_eq_getElem_cons hi]
          refine ⟨?_, e2, ?_⟩
          · rw [e1, List.map_cons, List.append_assoc]; rfl
          · intro b hb
            rcases List.mem_cons.mp hb with rfl | hb
            · omega
            · exact e3 b hb
        · rw [if_neg hL] at hv; cases hv
theorem refs_is {l : List Bmp} {v : List RB × Bool} {k : Nat} (hl : l.length * 48 ≤ 140737488351232) (hv : celluloidlaw20_refs.f k l = some v) (ht : v.2 = true) : v.1 = l.map toR ∧ l.length ≤ 10 ∧ ∀ b ∈ l, b.f3.length ≤ 500 := by
  unfold celluloidlaw20_refs.f at hv
  have := refs_l0_is l l hl l.length 0 k [] v (by omega) hv ht
  rwa [List.drop_zero, List.nil_append] at this
theorem r11_l0 (id w h : Int) (l : List Pix) (hl : l.length ≤ 4096) : ∀ (d i k : Nat), i + d = l.length → d < k → (∀ x ∈ l.drop i, Rp x) ∧ celluloidref11_Right.l0 k (i : Int) id w h l = some true ∨ ¬ (∀ x ∈ l.drop i, Rp x) ∧ celluloidref11_Right.l0 k (i : Int) id w h l = some false := by
  intro d
  induction d with
  | zero =>
    intro i k h1 hk
    obtain ⟨k, rfl⟩ : ∃ m, k = m + 1 := ⟨k - 1, by omega⟩
    rw [List.drop_of_length_le (by omega), celluloidref11_Right.l0, if_neg (by omega)]
    exact .inl ⟨fun x hx => (by cases hx), rfl⟩
  | succ d ih =>
    intro i k h1 hk
    obtain ⟨k, rfl⟩ : ∃ m, k = m + 1 := ⟨k - 1, by omega⟩
    have hi : i < l.length := by omega
    rw [celluloidref11_Right.l0, if_pos (by omega), if_pos (by omega), rdP l i hi, List.drop_eq_getElem_cons hi]
    by_cases hp : Rp l[i]
    · have hp' := hp
      unfold Rp Fnt Col at hp'
      rw [if_neg (by omega), if_neg (by omega), if_neg (by omega), if_neg (by omega), if_neg (by omega), if_neg (by omega), if_neg (by omega), w64_id (by omega) (by omega), show (i : Int) + 1 = ((i + 1 : Nat) : Int) by omega]
      rcases ih (i + 1) k (by omega) (by omega) with ⟨a, b⟩ | ⟨a, b⟩
      · refine .inl ⟨fun x hx => ?_, b⟩
        rcases List.mem_cons.mp hx with rfl | hx
        · exact hp
        · exact a x hx
      · exact .inr ⟨fun z => a (fun x hx => z x (List.mem_cons_of_mem _ hx)), b⟩
    · refine .inr ⟨fun z => hp (z _ List.mem_cons_self), ?_⟩
      generalize l[i] = c at hp
      by_cases q1 : c.f3 > 255
      · rw [if_pos q1]
      · rw [if_neg q1]
        by_cases q2 : c.f0 < 0
        · rw [if_pos q2]
        · rw [if_neg q2]
          by_cases q3 : c.f1 < 0
          · rw [if_pos q3]
          · rw [if_neg q3]
            by_cases q4 : c.f2 < 0
            · rw [if_pos q4]
            · rw [if_neg q4]
              by_cases q5 : c.f0 > c.f3
              · rw [if_pos q5]
              · rw [if_neg q5]
                by_cases q6 : c.f1 > c.f3
                · rw [if_pos q6]
                · rw [if_neg q6]
                  by_cases q7 : c.f2 > c.f3
                  · rw [if_pos q7]
                  · exact absurd (show Rp c by unfold Rp Fnt Col; omega) hp
theorem r11_spec (id w h : Int) (l : List Pix) (k : Nat) (hk : 6000 ≤ k) : Rt id w h l ∧ celluloidref11_Right.f k id w h l = some true ∨ ¬ Rt id w h l ∧ celluloidref11_Right.f k id w h l = some false := by
  obtain ⟨k, rfl⟩ : ∃ m, k = m + 1 := ⟨k - 1, by omega⟩
  have no : ¬ Rt id w h l → Rt id w h l ∧ celluloidref11_Right.j0 (k + 1) true id w h l = some true ∨ ¬ Rt id w h l ∧ celluloidref11_Right.j0 (k + 1) true id w h l = some false := fun hn => .inr ⟨hn, by rw [celluloidref11_Right.j0, if_pos rfl]⟩
  unfold celluloidref11_Right.f
  by_cases h1 : id < 0
  · rw [if_pos h1]; exact no (fun z => by have := z.1; omega)
  · rw [if_neg h1]
    by_cases h2 : id > 65535
    · rw [if_pos h2]; exact no (fun z => by have := z.1; omega)
    · rw [if_neg h2]
      by_cases h3 : w < 1
      · rw [if_pos h3]; exact no (fun z => by have := z.2.1; omega)
      · rw [if_neg h3]
        by_cases h4 : w > 64
        · rw [if_pos h4]; exact no (fun z => by have := z.2.1; omega)
        · rw [if_neg h4]
          by_cases h5 : h < 1
          · rw [if_pos h5]; exact no (fun z => by have := z.2.2.1; omega)
          · rw [if_neg h5]
            by_cases h6 : h > 64
            · rw [if_pos h6]; exact no (fun z => by have := z.2.2.1; omega)
            · have hb := whb (w := w) (h := h) (by omega) (by omega)
              rw [if_neg h6, w64_id (n := w * h) (by omega) (by omega)]
              by_cases h7 : (l.length : Int) = w * h
              · rw [show ((l.length : Int) != w * h) = false by simp [h7], celluloidref11_Right.j0, if_neg (by simp)]
                rcases r11_l0 id w h l (by omega) l.length 0 k (by omega) (by omega) with ⟨a, b⟩ | ⟨a, b⟩
                · rw [List.drop_zero] at a
                  exact .inl ⟨⟨by omega, by omega, by omega, h7, a⟩, b⟩
                · rw [List.drop_zero] at a
                  exact .inr ⟨fun z => a z.2.2.2.2, b⟩
              · rw [show ((l.length : Int) != w * h) = true by simp [h7]]; exact no (fun z => h7 z.2.2.2.1)
theorem equal_l0 (a b c : Int) (l : List Pix) (hl : l.length ≤ 500) : ∀ (d i k : Nat), i + d = l.length → d < k → celluloidref11_Equal.l0 k (i : Int) a b c l a b c l = some true := by
  intro d
  induction d with
  | zero =>
    intro i k h1 hk
    obtain ⟨k, rfl⟩ : ∃ m, k = m + 1 := ⟨k - 1, by omega⟩
    rw [celluloidref11_Equal.l0, if_neg (by omega)]
  | succ d ih =>
    intro i k h1 hk
    obtain ⟨k, rfl⟩ : ∃ m, k = m + 1 := ⟨k - 1, by omega⟩
    rw [celluloidref11_Equal.l0, if_pos (by omega), if_pos (by omega), if_pos (by omega), if_neg (by simp), w64_id (by omega) (by omega), show (i : Int) + 1 = ((i + 1 : Nat) : Int) by omega]
    exact ih (i + 1) k (by omega) (by omega)
theorem equal_self (a b c : Int) (l : List Pix) (hl : l.length ≤ 500) (k : Nat) (hk : 600 ≤ k) : celluloidref11_Equal.f k a b c l a b c l = some true := by
  obtain ⟨k, rfl⟩ : ∃ m, k = m + 1 := ⟨k - 1, by omega⟩
  unfold celluloidref11_Equal.f
  rw [if_pos rfl, if_pos rfl, if_pos rfl, show ((l.length : Int) != (l.length : Int)) = false by simp, celluloidref11_Equal.j0, if_neg (by simp)]
  exact equal_l0 a b c l hl l.length 0 k (by omega) (by omega)
/-- The first bitmap of a number: the same one, or none. -/
theorem find_l0_is (id : Int) (l : List Bmp) (hl : l.length ≤ 10) : ∀ (d i k k' : Nat), i + d = l.length → d < k → d < k' →
    (∃ b ∈ l, ∃ j : Nat, ∃ hj : j < l.length, l[j] = b ∧ paint_Find.l0 k id l (l.length : Int) (i : Int) = some (b.f0, b.f1, b.f2, b.f3, true) ∧ celluloidref20_Find.l0 k' (l.map toR) id (i : Int) = some (j : Int)) ∨
    paint_Find.l0 k id l (l.length : Int) (i : Int) = some (0, 0, 0, [], false) ∧ celluloidref20_Find.l0 k' (l.map toR) id (i : Int) = some (-1) := by
  intro d
  induction d with
  | zero =>
    intro i k k' h hk hk'
    obtain ⟨k, rfl⟩ : ∃ m, k = m + 1 := ⟨k - 1, by omega⟩
    obtain ⟨k', rfl⟩ : ∃ m, k' = m + 1 := ⟨k' - 1, by omega⟩
    exact .inr ⟨by rw [paint_Find.l0, if_neg (by omega)], by rw [celluloidref20_Find.l0, List.length_map, if_neg (by omega)]⟩
  | succ d ih =>
    intro i k k' h hk hk'
    obtain ⟨k, rfl⟩ : ∃ m, k = m + 1 := ⟨k - 1, by omega⟩
    obtain ⟨k', rfl⟩ : ∃ m, k' = m + 1 := ⟨k' - 1, by omega⟩
    have hi : i < l.length := by omega
    have e1 : paint_Find.l0 (k + 1) id l (l.length : Int) (i : Int) = if l[i].f0 = id then some (l[i].f0, l[i].f1, l[i].f2, l[i].f3, true) else paint_Find.l0 k id l (l.length : Int) ((i + 1 : Nat) : Int) := by
      rw [paint_Find.l0, if_pos (by omega), if_pos (by omega), if_pos (by omega), rdB l i hi, w64_id (by omega) (by omega)]; rfl
    have e2 : celluloidref20_Find.l0 (k' + 1) (l.map toR) id (i : Int) = if l[i].f0 = id then some (i : Int) else celluloidref20_Find.l0 k' (l.map toR) id ((i + 1 : Nat) : Int) := by
      rw [celluloidref20_Find.l0, List.length_map, if_pos (by omega), if_pos (by omega), rdR l i hi, w64_id (by omega) (by omega)]; rfl
    rw [e1, e2]
    by_cases h1 : l[i].f0 = id
    · rw [if_pos h1, if_pos h1]
      exact .inl ⟨l[i], List.getElem_mem hi, i, hi, rfl, rfl, rfl⟩
    · rw [if_neg h1, if_neg h1]
      exact ih (i + 1) k k' (by omega) (by omega) (by omega)
theorem find_is (id : Int) (l : List Bmp) (hl : l.length ≤ 10) (k k' : Nat) (hk : 11 ≤ k) (hk' : 11 ≤ k') :
    (∃ b ∈ l, ∃ j : Nat, ∃ hj : j < l.length, l[j] = b ∧ paint_Find.f k l id = some (b.f0, b.f1, b.f2, b.f3, true) ∧ celluloidref20_Find.f k' (l.map toR) id = some (j : Int)) ∨
    paint_Find.f k l id = some (0, 0, 0, [], false) ∧ celluloidref20_Find.f k' (l.map toR) id = some (-1) :=
  find_l0_is id l hl l.length 0 k k' (by omega) (by omega) (by omega)
theorem place_is (kd n : Int) {m : Int} (hm : 1 ≤ m ∧ m ≤ 64) : celluloidref20_place.f n m kd = some (wh kd n m) := by
  unfold celluloidref20_place.f wh
  by_cases c : kd = 64
  · rw [if_pos c, if_pos c]
    have h := mod_ref n m (by omega) (by omega)
    unfold celluloidref19_modulo.f at h
    exact h
  · rw [if_neg c, if_neg c, w64_id (by omega) (by omega)]
    by_cases h1 : n < 0
    · rw [if_pos h1]; congr 1; unfold mn mx; omega
    · rw [if_neg h1]
      by_cases h2 : n ≥ m
      · rw [if_pos h2]; congr 1; unfold mn mx; omega
      · rw [if_neg h2]; congr 1; unfold mn mx; omega
theorem picture_is {b : Bmp} (R : Rt b.f0 b.f1 b.f2 b.f3) (kd c0 c1 c2 c3 m0 m1 m2 m3 m4 m5 sp : Int) (s : List S80) (id : Int) (l : List Bmp) (x y : Int) (k : Nat) (hk : 6000 ≤ k) (f : paint_Find.f k l id = some (b.f0, b.f1, b.f2, b.f3, true)) :
    paint_picture.f k kd c0 c1 c2 c3 m0 m1 m2 m3 m4 m5 sp s id l x y = some (pxl b.f3 (wh kd y b.f2 * b.f1 + wh kd x b.f1)) := by
  have hw := R.2.1
  have hh := R.2.2.1
  unfold paint_picture.f
  rw [f, Option.bind_some, if_pos rfl]
  dsimp only
  have b1 := wh_bd' (kd := kd) (n := x) hw
  have b2 := wh_bd' (kd := kd) (n := y) hh
  have p := pixel_eq R b1 b2 k hk
  by_cases c : kd = 64
  · have e1 : wh kd x b.f1 = x % b.f1 := by unfold wh; rw [if_pos c]
    have e2 : wh kd y b.f2 = y % b.f2 := by unfold wh; rw [if_pos c]
    rw [e1, e2] at p ⊢
    rw [if_pos c, tile_eq hw, Option.bind_some, tile_eq hh, Option.bind_some, p, Option.bind_some]
  · have e1 : wh kd x b.f1 = mn (mx x 0) (b.f1 - 1) := by unfold wh; rw [if_neg c]
    have e2 : wh kd y b.f2 = mn (mx y 0) (b.f2 - 1) := by unfold wh; rw [if_neg c]
    rw [e1, e2] at p ⊢
    rw [if_neg c, w64_id (n := b.f1 - 1) (by omega) (by omega), w64_id (n := b.f2 - 1) (by omega) (by omega), p, Option.bind_some]
theorem faint_ref {r g b a : Int} (h : Col r g b a) : celluloidref20_Faint.f r g b a = some (faintS r g b a) := by
  unfold celluloidref20_Faint.f faintS
  rw [if_pos h]
  unfold Col at h
  rw [fa_w h.1 h.2.2.2, fa_w h.2.1 h.2.2.2, fa_w h.2.2.1 h.2.2.2]
theorem clear_one {n a : Int} (hn : 0 ≤ n ∧ n ≤ 255) (ha : 0 < a ∧ a ≤ 255) : celluloidref20_clear.f n a = some (cl n a) := by
  unfold celluloidref20_clear.f
  have e := (cl_w hn ha).1
  rw [if_neg (by omega), Int.mul_comm 255 n]
  generalize wrap64 (Int.tdiv (wrap64 (wrap64 (n * 255) + wrap64 (Int.tdiv a 2))) a) = X at e ⊢
  by_cases h : X > 255
  · rw [if_pos h]; congr 1; unfold mn at e; omega
  · rw [if_neg h]; congr 1; unfold mn at e; omega
theorem clear_ref {r g b a : Int} (h : Col r g b a) : celluloidref20_Clear.f r g b a = some (clearS r g b a) := by
  unfold celluloidref20_Clear.f clearS
  by_cases h0 : a = 0
  · rw [if_pos h0, if_neg (fun hh => hh.2 h0)]
  · rw [if_neg h0, if_pos ⟨h, h0⟩]
    unfold Col at h
    rw [clear_one h.1 (by omega), Option.bind_some, clear_one h.2.1 (by omega), Option.bind_some, clear_one h.2.2.1 (by omega), Option.bind_some]
theorem faintS0 : faintS 0 0 0 0 = (0, 0, 0, 0) := by unfold faintS; rw [if_pos (by unfold Col; omega)]; rfl
theorem colS_col (m0 m1 m2 m3 a0 a1 a2 a3 r g b a : Int) : Col (colS m0 m1 m2 m3 a0 a1 a2 a3 r g b a).1 (colS m0 m1 m2 m3 a0 a1 a2 a3 r g b a).2.1 (colS m0 m1 m2 m3 a0 a1 a2 a3 r g b a).2.2.1 (colS m0 m1 m2 m3 a0 a1 a2 a3 r g b a).2.2.2 := by
  have q : ∀ n m z : Int, 0 ≤ cc n m z ∧ cc n m z ≤ 255 := fun n m z => by unfold cc mn mx; omega
  unfold colS
  by_cases h : Cxr m0 m1 m2 m3 a0 a1 a2 a3 ∧ Col r g b a
  · rw [if_pos h]; exact ⟨q _ _ _, q _ _ _, q _ _ _, q _ _ _⟩
  · rw [if_neg h]; unfold Col; dsimp only; omega
/-- A colour that is changed, then made faint. -/
def chS (m0 m1 m2 m3 a0 a1 a2 a3 r g b a : Int) : Int × Int × Int × Int := faintS (colS m0 m1 m2 m3 a0 a1 a2 a3 r g b a).1 (colS m0 m1 m2 m3 a0 a1 a2 a3 r g b a).2.1 (colS m0 m1 m2 m3 a0 a1 a2 a3 r g b a).2.2.1 (colS m0 m1 m2 m3 a0 a1 a2 a3 r g b a).2.2.2
theorem change_eq (m0 m1 m2 m3 a0 a1 a2 a3 r g b a : Int) (k : Nat) (hk : 1200 ≤ k) : celluloidref20_change.f k m0 m1 m2 m3 a0 a1 a2 a3 r g b a = some (chS m0 m1 m2 m3 a0 a1 a2 a3 r g b a) := by
  obtain ⟨k, rfl⟩ : ∃ m, k = m + 1 := ⟨k - 1, by omega⟩
  have no : ¬ (Cxr m0 m1 m2 m3 a0 a1 a2 a3 ∧ Col r g b a) → celluloidref20_change.j0 (k + 1) true m0 m1 m2 m3 a0 a1 a2 a3 r g b a = some (chS m0 m1 m2 m3 a0 a1 a2 a3 r g b a) := by
    intro h
    have e : chS m0 m1 m2 m3 a0 a1 a2 a3 r g b a = (0, 0, 0, 0) := by unfold chS colS; rw [if_neg h]; exact faintS0
    rw [e, celluloidref20_change.j0, if_pos rfl]
  unfold celluloidref20_change.f
  rw [cx07_eq _ _ _ _ _ _ _ _ _ (by omega), Option.bind_some]
  by_cases h : Cxr m0 m1 m2 m3 a0 a1 a2 a3
  · rw [decide_eq_true h, if_pos rfl, rgba07_eq _ _ _ _ _ (by omega), Option.bind_some]
    by_cases h' : Col r g b a
    · rw [decide_eq_true h', celluloidref20_change.j0, if_neg (by simp), colorR_eq h h' k (by omega), Option.bind_some, faint_ref (colS_col _ _ _ _ _ _ _ _ _ _ _ _), Option.bind_some]; rfl
    · rw [decide_eq_false h']; exact no (fun hh => h' hh.2)
  · rw [decide_eq_false h, if_neg (by simp)]; exact no (fun hh => h hh.1)
theorem ch_prog (m0 m1 m2 m3 a0 a1 a2 a3 r g b a : Int) (k : Nat) (hk : 1200 ≤ k) : ((affine_Color.f k m0 m1 m2 m3 a0 a1 a2 a3 r g b a).bind fun t => (paint_Faint.f k t.1 t.2.1 t.2.2.1 t.2.2.2).bind fun u => some (u.1, u.2.1, u.2.2.1, u.2.2.2)) = some (chS m0 m1 m2 m3 a0 a1 a2 a3 r g b a) := by
  rw [color_eq _ _ _ _ _ _ _ _ _ _ _ _ k (by omega), Option.bind_some, faint_eq _ _ _ _ k (by omega), Option.bind_some]; rfl
theorem end19_eq (n : Int) : celluloidref19_end.f n = some (rcl n) := by
  rw [cl_cases]; unfold celluloidref19_end.f
  by_cases h1 : n > 1073741824
  · rw [if_pos h1, if_pos h1]
  · rw [if_neg h1, if_neg h1]
    by_cases h2 : n < -1073741824
    · rw [if_pos h2, if_pos h2]
    · rw [if_neg h2, if_neg h2]
/-- The place of a point. -/
def placeS (k0 x y : Int) : Int := if k0 = 18 then circS x y else (rcl x + 16384) / 128
theorem points_agree (k0 c0 c1 c2 c3 m0 m1 m2 m3 m4 m5 sp : Int) (l : List Stop) (id x y : Int) (h20 : l.length ≤ 20) (hf : fillB k0 c0 c1 c2 c3 m0 m1 m2 m3 m4 m5 sp l id = true) (hg : k0 = 16 ∨ k0 = 18) (k k' : Nat) (hk : 4294967296 < k) (hk' : 4294967296 < k') :
    ∃ c : Int × Int × Int × Int, ramp_At.f (k + 1) k0 c0 c1 c2 c3 m0 m1 m2 m3 m4 m5 sp l id x y = some c ∧ celluloidref19_At.f (k' + 1) k0 c0 c1 c2 c3 m0 m1 m2 m3 m4 m5 sp l id x y = some c := by
  have ef := rightFill_eq k0 c0 c1 c2 c3 m0 m1 m2 m3 m4 m5 sp l id (by omega) (k + 1) (by omega)
  have el : ramp_Line.f x y = some ((rcl x + 16384) / 128) := line_eq x y
  have h := hf
  unfold fillB at h
  rw [if_neg (by omega), if_neg (by omega), if_pos hg] at h
  simp only [Bool.and_eq_true] at h
  have hgr := of_decide_eq_true h.2.2
  have hr : rightS l = true := by unfold rightS; rw [h.2.1, decide_eq_true (by omega)]; rfl
  have hb := cl_bd x
  have hs := sqs_bd x y
  have hx := sq_bd x; have hy := sq_bd y
  have hi := isq_bd (n := (sqs x y).toNat) (by omega)
  have hfo := foldS_bd (placeS k0 x y) sp
  obtain ⟨c, q1, q2⟩ := colors_agree hr (by omega) hfo.1 hfo.2 k (k' + 1) (by omega) (by omega)
  have ea : ramp_At.f (k + 1) k0 c0 c1 c2 c3 m0 m1 m2 m3 m4 m5 sp l id x y = some (c.1, c.2.1, c.2.2.1, c.2.2.2) := by
    unfold ramp_At.f
    rw [el, Option.bind_some, ef, hf, Option.bind_some, if_pos rfl]
    have go : ramp_At.j0 (k + 1) ((rcl x + 16384) / 128) false k0 c0 c1 c2 c3 m0 m1 m2 m3 m4 m5 sp l id x y = some (c.1, c.2.1, c.2.2.1, c.2.2.2) := by
      rw [ramp_At.j0, if_neg (by simp)]
      by_cases h18 : k0 = 18
      · rw [if_pos h18, circle_eq _ _ _ hk, Option.bind_some, fold_eq, Option.bind_some]
        unfold placeS at q1; rw [if_pos h18] at q1
        rw [q1]; rfl
      · rw [if_neg h18, fold_eq, Option.bind_some]
        unfold placeS at q1; rw [if_neg h18] at q1
        rw [q1]; rfl
    by_cases h16 : k0 = 16
    · rw [if_pos h16]; exact go
    · rw [if_neg h16, show (k0 != 18) = false by simp; omega]; exact go
  have eb : celluloidref19_At.f (k' + 1) k0 c0 c1 c2 c3 m0 m1 m2 m3 m4 m5 sp l id x y = some (c.1, c.2.1, c.2.2.1, c.2.2.2) := by
    unfold celluloidref19_At.f
    rw [end19_eq, Option.bind_some, end19_eq, Option.bind_some, w64_id (n := rcl x * rcl x) (by omega) (by omega), w64_id (n := rcl y * rcl y) (by omega) (by omega)]
    have es : rcl x * rcl x + rcl y * rcl y = sqs x y := rfl
    rw [es, w64_id (n := sqs x y) (by omega) (by omega), ref_root _ (by omega) (k' + 1) (by omega), Option.bind_some]
    by_cases h16 : k0 = 16
    · rw [if_pos h16, mod_ref _ _ (by omega) (by omega), Option.bind_some, w64_id (n := rcl x + 16384) (by omega) (by omega), w64_id (n := rcl x + 16384 - rcl x % 128) (by omega) (by omega)]
      have et : wrap64 (Int.tdiv (rcl x + 16384 - rcl x % 128) 128) = (rcl x + 16384) / 128 := by
        have e1 : rcl x + 16384 - rcl x % 128 = 128 * ((rcl x + 16384) / 128) := by omega
        rw [e1, Int.mul_tdiv_cancel_left _ (by omega), w64_id (by omega) (by omega)]
      rw [et, fold_ref, Option.bind_some]
      unfold placeS at q2; rw [if_neg (by omega)] at q2
      rw [q2]; rfl
    · have h18 : k0 = 18 := by omega
      rw [if_neg h16]
      have et : wrap64 (Int.tdiv ((isq (sqs x y).toNat : Nat) : Int) 64) = circS x y := by
        unfold circS
        generalize isq (sqs x y).toNat = r at *
        rw [Int.tdiv_eq_ediv_of_nonneg (by omega), w64_id (by omega) (by omega)]
      rw [et, fold_ref, Option.bind_some]
      unfold placeS at q2; rw [if_pos h18] at q2
      rw [q2]; rfl
  exact ⟨_, ea, eb⟩
theorem at_agree (k0 c0 c1 c2 c3 m0 m1 m2 m3 m4 m5 sp : Int) (s : List Stop) (id n0 n1 n2 n3 n4 n5 x0 x1 x2 x3 x4 x5 x6 x7 : Int) (l : List Bmp) (u v : Int) (hs : s.length ≤ 20) (hl : l.length ≤ 10) (k : Nat) (hk : 4294980000 < k) :
    ∃ z : Int × Int × Int × Int, paint_At.f k k0 c0 c1 c2 c3 m0 m1 m2 m3 m4 m5 sp s id n0 n1 n2 n3 n4 n5 x0 x1 x2 x3 x4 x5 x6 x7 l u v = some z ∧ celluloidref20_At.f k k0 c0 c1 c2 c3 m0 m1 m2 m3 m4 m5 sp s id n0 n1 n2 n3 n4 n5 x0 x1 x2 x3 x4 x5 x6 x7 (l.map toR) u v = some z := by
  obtain ⟨k, rfl⟩ : ∃ m, k = m + 2 := ⟨k - 2, by omega⟩
  unfold paint_At.f celluloidref20_At.f
  rw [rightFill_eq _ _ _ _ _ _ _ _ _ _ _ _ _ _ (by omega) _ (by omega), Option.bind_some, fill08_eq _ _ _ _ _ _ _ _ _ _ _ _ _ _ (by omega) _ (by omega), Option.bind_some]
  by_cases hf : fillB k0 c0 c1 c2 c3 m0 m1 m2 m3 m4 m5 sp s id = true
  · rw [if_pos hf, if_pos hf]
    by_cases h0 : k0 = 0
    · rw [if_pos h0, if_pos h0, ch_prog _ _ _ _ _ _ _ _ _ _ _ _ _ (by omega), change_eq _ _ _ _ _ _ _ _ _ _ _ _ _ (by omega), Option.bind_some]
      exact ⟨_, rfl, rfl⟩
    · rw [if_neg h0, if_neg h0, compose_eq _ _ _ _ _ _ _ _ _ _ _ _ _ (by omega), Option.bind_some, composeR_eq _ _ _ _ _ _ _ _ _ _ _ _ _ (by omega), Option.bind_some]
      generalize coS n0 n1 n2 n3 n4 n5 m0 m1 m2 m3 m4 m5 = q
      by_cases hq : q.2.2.2.2.2.2 = 0
      · rw [if_pos hq, if_pos hq, back_eq _ _ _ _ _ _ _ _ _ (by omega), Option.bind_some, backR_eq _ _ _ _ _ _ _ _ _ (by omega), Option.bind_some]
        generalize bkS q.1 q.2.1 q.2.2.1 q.2.2.2.1 q.2.2.2.2.1 q.2.2.2.2.2.1 u v = t
        by_cases ht : t.2.2 = true
        · rw [if_pos ht, if_pos ht]
          by_cases hg : k0 = 16 ∨ k0 = 18
          · obtain ⟨c, e1, e2⟩ := points_agree k0 c0 c1 c2 c3 m0 m1 m2 m3 m4 m5 sp s id t.1 t.2.1 hs hf hg k (k + 1) (by omega) (by omega)
            have j : paint_At.j0 (k + 2) l true k0 c0 c1 c2 c3 m0 m1 m2 m3 m4 m5 sp s id x0 x1 x2 x3 x4 x5 x6 x7 t.1 t.2.1 = some (chS x0 x1 x2 x3 x4 x5 x6 x7 c.1 c.2.1 c.2.2.1 c.2.2.2) := by
              rw [paint_At.j0, if_pos rfl, e1, Option.bind_some, ch_prog _ _ _ _ _ _ _ _ _ _ _ _ _ (by omega)]
            rw [if_pos (show k0 < 64 by omega), e2, Option.bind_some, change_eq _ _ _ _ _ _ _ _ _ _ _ _ _ (by omega), Option.bind_some]
            refine ⟨_, ?_, rfl⟩
            by_cases h16 : k0 = 16
            · rw [if_pos h16]; exact j
            · rw [if_neg h16, show (k0 == 18) = true by simp; omega]; exact j
          · have hk64 : k0 = 64 ∨ k0 = 65 := by
              unfold fillB at hf
              rw [if_neg h0] at hf
              by_cases h64 : k0 = 64 ∨ k0 = 65
              · exact h64
              · rw [if_neg h64, if_neg hg] at hf; cases hf
            rw [if_neg (show ¬ k0 = 16 by omega), show (k0 == 18) = false by simp; omega, if_neg (show ¬ k0 < 64 by omega), paint_At.j0, if_neg (by simp)]
            rcases find_is id l hl (k + 1) (k + 2) (by omega) (by omega) with ⟨b, hb, j, hj, ej, f1, f2⟩ | ⟨f1, f2⟩
            · have er : rd_T48 (l.map toR) (j : Int) = toR b := by rw [rdR l j hj, ej]
              rw [f1, Option.bind_some, if_pos rfl, f2, Option.bind_some, if_neg (by omega), if_pos (by omega), List.length_map, if_pos (by omega), er]
              obtain ⟨w, ew, w1, w2⟩ := right_spec b.f0 b.f1 b.f2 b.f3 (k + 1) (by omega)
              have fk : paint_Find.f k l id = some (b.f0, b.f1, b.f2, b.f3, true) := by
                rcases find_is id l hl k (k + 2) (by omega) (by omega) with ⟨b', _, j', hj', ej', g1, g2⟩ | ⟨g1, g2⟩
                · rw [f2] at g2
                  have : j = j' := by have := Option.some.inj g2; omega
                  subst this
                  rw [g1, ← ej', ej]
                · rw [f2] at g2
                  have := Option.some.inj g2; omega
              rcases r11_spec b.f0 b.f1 b.f2 b.f3 (k + 2) (by omega) with ⟨R, r⟩ | ⟨R, r⟩
              · have : w = true := w2 R
                subst this
                rw [ew, Option.bind_some, show celluloidref11_Right.f (k + 2) (toR b).f0 (toR b).f1 (toR b).f2 (toR b).f3 = some true from r, Option.bind_some, paint_At.j1, if_neg (by simp), celluloidref20_At.j0, if_neg (by simp), if_pos (by omega), List.length_map, if_pos (by omega), er]
                have hw := R.2.1
                have hh := R.2.2.1
                have b1 := wh_bd' (kd := k0) (n := t.1) hw
                have b2 := wh_bd' (kd := k0) (n := t.2.1) hh
                obtain ⟨i0, i1, i2⟩ := ix_bd hw hh b1 b2
                have hF := pxl_fnt R.2.2.2.2 (n := wh k0 t.2.1 b.f2 * b.f1 + wh k0 t.1 b.f1) (by omega) (by rw [R.2.2.2.1]; exact i1)
                rw [picture_is R _ _ _ _ _ _ _ _ _ _ _ _ _ _ _ _ _ k (by omega) fk, Option.bind_some, clear_eq _ _ _ _ _ (by omega), Option.bind_some, ch_prog _ _ _ _ _ _ _ _ _ _ _ _ _ (by omega)]
                refine ⟨_, rfl, ?_⟩
                have p1 : celluloidref20_place.f t.2.1 (toR b).f2 k0 = some (wh k0 t.2.1 b.f2) := place_is k0 t.2.1 hh
                have p2 : celluloidref20_place.f t.1 (toR b).f1 k0 = some (wh k0 t.1 b.f1) := place_is k0 t.1 hw
                rw [p1, Option.bind_some, p2, Option.bind_some]
                have i2' : wrap64 (wrap64 (wh k0 t.2.1 b.f2 * (toR b).f1) + wh k0 t.1 b.f1) = wh k0 t.2.1 b.f2 * b.f1 + wh k0 t.1 b.f1 := i2
                have hlen : (((toR b).f3).length : Int) = b.f1 * b.f2 := R.2.2.2.1
                have cr : celluloidref20_Clear.f (rd_T23 (toR b).f3 (wh k0 t.2.1 b.f2 * b.f1 + wh k0 t.1 b.f1)).f0 (rd_T23 (toR b).f3 (wh k0 t.2.1 b.f2 * b.f1 + wh k0 t.1 b.f1)).f1 (rd_T23 (toR b).f3 (wh k0 t.2.1 b.f2 * b.f1 + wh k0 t.1 b.f1)).f2 (rd_T23 (toR b).f3 (wh k0 t.2.1 b.f2 * b.f1 + wh k0 t.1 b.f1)).f3 = some (clearS (pxl b.f3 (wh k0 t.2.1 b.f2 * b.f1 + wh k0 t.1 b.f1)).1 (pxl b.f3 (wh k0 t.2.1 b.f2 * b.f1 + wh k0 t.1 b.f1)).2.1 (pxl b.f3 (wh k0 t.2.1 b.f2 * b.f1 + wh k0 t.1 b.f1)).2.2.1 (pxl b.f3 (wh k0 t.2.1 b.f2 * b.f1 + wh k0 t.1 b.f1)).2.2.2) := clear_ref hF.1
                rw [i2', if_pos (by omega), if_pos (by rw [hlen]; exact i1), cr, Option.bind_some, change_eq _ _ _ _ _ _ _ _ _ _ _ _ _ (by omega), Option.bind_some]
              · have : w = false := by cases w with | false => rfl | true => exact absurd (w1 rfl) R
                subst this
                rw [ew, Option.bind_some, show celluloidref11_Right.f (k + 2) (toR b).f0 (toR b).f1 (toR b).f2 (toR b).f3 = some false from r, Option.bind_some, Bool.not_false, paint_At.j1, if_pos rfl, celluloidref20_At.j0, if_pos rfl]
                exact ⟨_, rfl, rfl⟩
            · rw [f1, Option.bind_some, if_neg (by simp), f2, Option.bind_some, if_pos (by omega), paint_At.j1, if_pos rfl, celluloidref20_At.j0, if_pos rfl]
              exact ⟨_, rfl, rfl⟩
        · rw [if_neg ht, if_neg ht]; exact ⟨_, rfl, rfl⟩
      · rw [if_neg hq, if_neg hq]; exact ⟨_, rfl, rfl⟩
  · rw [if_neg hf, if_neg hf]; exact ⟨_, rfl, rfl⟩
theorem PaintPoints : celluloidlaw20_PaintPoints.Pure := by
  intro f m cx l p _ _ _ _ hl _
  obtain ⟨k, hk⟩ : ∃ k : Nat, l.length + 4294990000 < k := ⟨_, Nat.lt_succ_self _⟩
  refine ⟨k + 2, ?_⟩
  unfold celluloidlaw20_PaintPoints.f
  obtain ⟨w, hw⟩ := refs_some l hl (k + 2) (by omega)
  rw [hw, Option.bind_some]
  generalize f.f0 = k0
  generalize f.f1.f0 = c0
  generalize f.f1.f1 = c1
  generalize f.f1.f2 = c2
  generalize f.f1.f3 = c3
  generalize f.f2.f0 = m0
  generalize f.f2.f1 = m1
  generalize f.f2.f2 = m2
  generalize f.f2.f3 = m3
  generalize f.f2.f4 = m4
  generalize f.f2.f5 = m5
  generalize f.f3 = sp
  generalize f.f4 = s
  generalize f.f5 = id
  have fin : ∀ n, 1001 ≤ n → ((celluloidlaw20_awake.f n).bind fun t => some t) = some true := by intro n hn; rw [awake_eq n hn]; rfl
  have quit : celluloidlaw20_PaintPoints.j0 (k + 2) l w.1 true k0 c0 c1 c2 c3 m0 m1 m2 m3 m4 m5 sp s id m.f0 m.f1 m.f2 m.f3 m.f4 m.f5 cx.f0.f0 cx.f0.f1 cx.f0.f2 cx.f0.f3 cx.f1.f0 cx.f1.f1 cx.f1.f2 cx.f1.f3 p.f0 p.f1 = some true := by
    rw [celluloidlaw20_PaintPoints.j0, if_pos rfl]; exact fin _ (by omega)
  by_cases hb : w.2 = true
  · rw [if_pos hb]
    by_cases h20 : (s.length : Int) > 20
    · rw [decide_eq_true h20]; exact quit
    · obtain ⟨e1, hl10, h500⟩ := refs_is hl hw hb
      have go : celluloidlaw20_PaintPoints.j1 (k + 1) l (l.map toR) false k0 c0 c1 c2 c3 m0 m1 m2 m3 m4 m5 sp s id m.f0 m.f1 m.f2 m.f3 m.f4 m.f5 cx.f0.f0 cx.f0.f1 cx.f0.f2 cx.f0.f3 cx.f1.f0 cx.f1.f1 cx.f1.f2 cx.f1.f3 p.f0 p.f1 = some true := by
        obtain ⟨z, z1, z2⟩ := at_agree k0 c0 c1 c2 c3 m0 m1 m2 m3 m4 m5 sp s id m.f0 m.f1 m.f2 m.f3 m.f4 m.f5 cx.f0.f0 cx.f0.f1 cx.f0.f2 cx.f0.f3 cx.f1.f0 cx.f1.f1 cx.f1.f2 cx.f1.f3 l p.f0 p.f1 (by omega) hl10 k (by omega)
        rw [celluloidlaw20_PaintPoints.j1, if_neg (by simp), z1, Option.bind_some, z2, Option.bind_some, if_pos (by simp)]
        exact fin _ (by omega)
      rw [decide_eq_false h20, e1, celluloidlaw20_PaintPoints.j0, if_neg (by simp)]
      rcases find_is id l hl10 (k + 1) (k + 1) (by omega) (by omega) with ⟨b, hbm, j, hj, ej, f1, f2⟩ | ⟨f1, f2⟩
      · have er : rd_T48 (l.map toR) (j : Int) = toR b := by rw [rdR l j hj, ej]
        rw [f1, Option.bind_some, f2, Option.bind_some, decide_eq_true (show (j : Int) ≥ 0 by omega), if_neg (by simp), if_pos rfl, if_pos (by omega), List.length_map, if_pos (by omega), er]
        have eq : celluloidref11_Equal.f (k + 1) b.f0 b.f1 b.f2 b.f3 (toR b).f0 (toR b).f1 (toR b).f2 (toR b).f3 = some true := equal_self b.f0 b.f1 b.f2 b.f3 (h500 b hbm) (k + 1) (by omega)
        rw [eq, Option.bind_some]
        exact go
      · rw [f1, Option.bind_some, f2, Option.bind_some, decide_eq_false (show ¬ (-1 : Int) ≥ 0 by omega), if_neg (by simp), if_neg (by simp)]
        exact go
  · rw [if_neg hb]; exact quit
end Go.Proofs.Ytmdfcinjmlagcaa.Pure
