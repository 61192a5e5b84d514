/- A bitmap that is tiled comes again by its width and its height; one that is cut goes on as its last pixels. (prune.py) -/
import Derived.Test.YtmdfcinjmlagcaaPx0
import Derived.Test.YtmdfcinjmlagcaaPx4
import Derived.Test.YtmdfcinjmlagcaaPx7
import Derived.Test.YtmdfcinjmlagcaaPx8
import Derived.Test.YtmdfcinjmlagcaaPx9
import Derived.Test.YtmdfcinjmlagcaaPx10
import Derived.Test.YtmdfcinjmlagcaaPx11
import Derived.Test.YtmdfcinjmlagcaaPx12
import Derived.Test.YtmdfcinjmlagcaaPx13
import Derived.Test.YtmdfcinjmlagcaaPx14
import Derived.Test.YtmdfcinjmlagcaaPx15
import Derived.Test.YtmdfcinjmlagcaaPx19
import Derived.Test.YtmdfcinjmlagcaaPx20
import Derived.Test.YtmdfcinjmlagcaaPx33
import Derived.Test.YtmdfcinjmlagcaaPx34
import Derived.Laws.BitsAllLaws
import Derived.Laws.MathBits
import Derived.Lib.BitFns
import Derived.Test.YtmdfcinjmlagcaaSayPaintTiles
namespace Go.Proofs.Ytmdfcinjmlagcaa.P
open Go.RowKit Go.Proofs.YtmdfcinjmlagcaaW.PrintWords Go.Proofs.YtmdfcinjmlagcaaW.PrintLast Go.Proofs.YtmdfcinjmlagcaaW.PrintMore
theorem w64_id {n : Int} (h0 : -9223372036854775808 ≤ n) (h1 : n < 9223372036854775808) : wrap64 n = n := by unfold wrap64; omega
/-- Is a colour right? -/
def Col (r g b a : Int) : Prop := (0 ≤ r ∧ r ≤ 255) ∧ (0 ≤ g ∧ g ≤ 255) ∧ (0 ≤ b ∧ b ≤ 255) ∧ (0 ≤ a ∧ a ≤ 255)
instance (r g b a : Int) : Decidable (Col r g b a) := by unfold Col; infer_instance
theorem rd_cons_drop (l : List Int) (i : Nat) (h : i < l.length) : l.drop i = rd l (i : Int) :: l.drop (i + 1) := by
  rw [List.drop_eq_getElem_cons h]
  simp [rd, List.getD_eq_getElem?_getD, h]
theorem within_l0 (f t : Int) (l : List Int) (hl : l.length ≤ 1000) : ∀ (d i k : Nat), d + i = l.length → d < k → field_within.l0 k f t l (l.length : Int) (i : Int) = some (decide (∀ x ∈ l.drop i, f ≤ x ∧ x ≤ t)) := by
  intro d
  induction d with
  | zero =>
    intro i k h hk
    obtain ⟨k, rfl⟩ : ∃ m, k = m + 1 := ⟨k - 1, by omega⟩
    simp only [field_within.l0]
    rw [if_neg (by omega), List.drop_of_length_le (by omega)]; simp
  | succ d ih =>
    intro i k h hk
    obtain ⟨k, rfl⟩ : ∃ m, k = m + 1 := ⟨k - 1, by omega⟩
    simp only [field_within.l0]
    rw [if_pos (by omega), if_pos (by omega), if_pos (by omega), w64_id (by omega) (by omega), show (i : Int) + 1 = ((i + 1 : Nat) : Int) by omega, rd_cons_drop l i (by omega)]
    by_cases h1 : rd l (i : Int) < f
    · rw [if_pos h1, decide_eq_false]; intro hc; have := hc _ (List.mem_cons_self ..); omega
    · rw [if_neg h1]
      by_cases h2 : rd l (i : Int) > t
      · rw [if_pos h2, decide_eq_false]; intro hc; have := hc _ (List.mem_cons_self ..); omega
      · rw [if_neg h2, ih (i + 1) k (by omega) (by omega)]
        congr 1; rw [decide_eq_decide]
        constructor
        · intro hh x hx
          rcases List.mem_cons.mp hx with rfl | hx
          · omega
          · exact hh x hx
        · intro hh x hx; exact hh x (List.mem_cons_of_mem _ hx)
theorem within_eq (f t : Int) (l : List Int) (hl : l.length ≤ 1000) (k : Nat) (hk : 1001 ≤ k) : field_within.f k f t l = some (decide (∀ x ∈ l, f ≤ x ∧ x ≤ t)) := by
  unfold field_within.f
  exact within_l0 f t l hl l.length 0 k (by omega) (by omega)
theorem rgba_eq (r g b a : Int) (k : Nat) (hk : 1001 ≤ k) : field_RightRGBA.f k r g b a = some (decide (Col r g b a)) := by
  unfold field_RightRGBA.f
  rw [within_eq _ _ _ (by simp) k hk, Option.bind_some]
  congr 1; rw [decide_eq_decide]; unfold Col; simp
/-- A part, times the alpha. -/
def fa (n a : Int) : Int := (n * a + 127) / 255
theorem prod_bd {n a : Int} (hn : 0 ≤ n ∧ n ≤ 255) (ha : 0 ≤ a ∧ a ≤ 255) : 0 ≤ n * a ∧ n * a ≤ 255 * a := ⟨Int.mul_nonneg hn.1 ha.1, Int.mul_le_mul_of_nonneg_right hn.2 ha.1⟩
theorem fa_w {n a : Int} (hn : 0 ≤ n ∧ n ≤ 255) (ha : 0 ≤ a ∧ a ≤ 255) : wrap64 (Int.tdiv (wrap64 (wrap64 (n * a) + 127)) 255) = fa n a := by
  have h := prod_bd hn ha
  unfold fa
  rw [w64_id (n := n * a) (by omega) (by omega), w64_id (n := n * a + 127) (by omega) (by omega), Int.tdiv_eq_ediv_of_nonneg (by omega), w64_id (by omega) (by omega)]
def faintS (r g b a : Int) : Int × Int × Int × Int := if Col r g b a then (fa r a, fa g a, fa b a, a) else (0, 0, 0, 0)
theorem faint_eq (r g b a : Int) (k : Nat) (hk : 1001 ≤ k) : paint_Faint.f k r g b a = some (faintS r g b a) := by
  unfold paint_Faint.f faintS
  rw [rgba_eq _ _ _ _ k hk, Option.bind_some]
  by_cases h : Col r g b a
  · have h' := h
    unfold Col at h'
    rw [decide_eq_true h, if_pos rfl, if_pos h, fa_w h'.1 h'.2.2.2, fa_w h'.2.1 h'.2.2.2, fa_w h'.2.2.1 h'.2.2.2]
  · rw [decide_eq_false h, if_neg (by simp), if_neg h]
/-- A part, without the alpha. -/
def cl (n a : Int) : Int := mn ((n * 255 + a / 2) / a) 255
theorem cl_w {n a : Int} (hn : 0 ≤ n ∧ n ≤ 255) (ha : 0 < a ∧ a ≤ 255) : mn (wrap64 (Int.tdiv (wrap64 (wrap64 (n * 255) + wrap64 (Int.tdiv a 2))) a)) 255 = cl n a ∧ 0 ≤ cl n a ∧ cl n a ≤ 255 := by
  have e1 := Int.ediv_le_self a (show 0 ≤ n * 255 + a / 2 by omega)
  have e0 : 0 ≤ (n * 255 + a / 2) / a := Int.ediv_nonneg (by omega) (by omega)
  unfold cl
  rw [w64_id (n := n * 255) (by omega) (by omega), Int.tdiv_eq_ediv_of_nonneg (a := a) (by omega), w64_id (n := a / 2) (by omega) (by omega), w64_id (n := n * 255 + a / 2) (by omega) (by omega), Int.tdiv_eq_ediv_of_nonneg (by omega), w64_id (by omega) (by omega)]
  refine ⟨rfl, ?_⟩
  unfold mn
  omega
def clearS (r g b a : Int) : Int × Int × Int × Int := if Col r g b a ∧ a ≠ 0 then (cl r a, cl g a, cl b a, a) else (0, 0, 0, 0)
theorem clear_eq (r g b a : Int) (k : Nat) (hk : 1001 ≤ k) : paint_Clear.f k r g b a = some (clearS r g b a) := by
  unfold paint_Clear.f clearS
  rw [rgba_eq _ _ _ _ k hk, Option.bind_some]
  by_cases h : Col r g b a
  · rw [decide_eq_true h, if_pos rfl]
    by_cases h0 : a = 0
    · rw [if_pos h0, if_neg (fun hh => hh.2 h0)]
    · have h' := h
      unfold Col at h'
      rw [if_neg h0, if_pos ⟨h, h0⟩, (cl_w h'.1 (a := a) ⟨by omega, by omega⟩).1, (cl_w h'.2.1 (a := a) ⟨by omega, by omega⟩).1, (cl_w h'.2.2.1 (a := a) ⟨by omega, by omega⟩).1]
  · rw [decide_eq_false h, if_neg (by simp), if_neg (fun hh => h hh.1)]
/-- Is a colour right, and no part above its alpha? -/
def Fnt (r g b a : Int) : Prop := Col r g b a ∧ r ≤ a ∧ g ≤ a ∧ b ≤ a
instance (r g b a : Int) : Decidable (Fnt r g b a) := by unfold Fnt; infer_instance
theorem clearS_col (r g b a : Int) : Col (clearS r g b a).1 (clearS r g b a).2.1 (clearS r g b a).2.2.1 (clearS r g b a).2.2.2 := by
  unfold clearS
  by_cases h : Col r g b a ∧ a ≠ 0
  · rw [if_pos h]
    obtain ⟨h, h0⟩ := h
    unfold Col at h
    have h1 := (cl_w h.1 (a := a) ⟨by omega, by omega⟩).2
    have h2 := (cl_w h.2.1 (a := a) ⟨by omega, by omega⟩).2
    have h3 := (cl_w h.2.2.1 (a := a) ⟨by omega, by omega⟩).2
    unfold Col
    dsimp only
    omega
  · rw [if_neg h]; unfold Col; dsimp only; omega
theorem awake_eq (k : Nat) (hk : 1001 ≤ k) : celluloidlaw20_awake.f k = some true := by
  have e1 : faintS 255 100 0 128 = (128, 50, 0, 128) := by unfold faintS; rw [if_pos (by unfold Col; omega)]; rfl
  have e2 : clearS 64 0 0 128 = (128, 0, 0, 128) := by unfold clearS; rw [if_pos ⟨by unfold Col; omega, by omega⟩]; rfl
  unfold celluloidlaw20_awake.f
  rw [faint_eq _ _ _ _ k hk, Option.bind_some, e1, if_pos (by rfl), clear_eq _ _ _ _ k hk, Option.bind_some, e2]
  rfl
end Go.Proofs.Ytmdfcinjmlagcaa.P
namespace Go.Proofs.Ytmdfcinjmlagcaa.P
open Go.RowKit Go.Proofs.YtmdfcinjmlagcaaW.PrintWords Go.Proofs.YtmdfcinjmlagcaaW.PrintLast Go.Proofs.YtmdfcinjmlagcaaW.PrintMore
theorem u64_id {n : Int} (h0 : 0 ≤ n) (h1 : n < 18446744073709551616) : IntKind.u64.wrap n = n := by rw [IntKind.wrap_u64]; omega
structure Digit (u v v1 v0 u1 Q : Int) : Prop where
  hv : v = v1 * 4294967296 + v0
  v0a : 0 ≤ v0
  v0b : v0 < 4294967296
  v1a : 2147483648 ≤ v1
  v1b : v1 < 4294967296
  ua : 0 ≤ u
  ub : u < v
  u1a : 0 ≤ u1
  u1b : u1 < 4294967296
  qa : Q * v ≤ u * 4294967296 + u1
  qb : u * 4294967296 + u1 < Q * v + v
theorem lt_of_mul {a b v : Int} (hv : 0 < v) (h : a * v < b * v) : a < b := by
  rcases Int.lt_or_le a b with h1 | h1
  · exact h1
  · have := Int.mul_le_mul_of_nonneg_right h1 (Int.le_of_lt hv); omega
namespace Digit
variable {u v v1 v0 u1 Q : Int}
theorem vpos (d : Digit u v v1 v0 u1 Q) : 0 < v := by have := d.hv; have := d.v1a; have := d.v0a; omega
theorem q0 (d : Digit u v v1 v0 u1 Q) : 0 ≤ Q := by
  have h := d.qb; have := d.ua; have := d.u1a; have hv := d.vpos
  have : -1 < Q := lt_of_mul hv (by have : (Q + 1) * v = Q * v + v := by rw [Int.add_mul, Int.one_mul]
                                    omega)
  omega
theorem qB (d : Digit u v v1 v0 u1 Q) : Q < 4294967296 := by
  have h := d.qa; have := d.ub; have := d.u1b; have hv := d.vpos
  exact lt_of_mul hv (by omega)
theorem below (d : Digit u v v1 v0 u1 Q) {q : Int} (h : u * 4294967296 + u1 < q * v) : Q < q := lt_of_mul d.vpos (by have := d.qa; omega)
theorem above (d : Digit u v v1 v0 u1 Q) {q : Int} (h : q * v ≤ u * 4294967296 + u1) : q ≤ Q := by
  have : q < Q + 1 := lt_of_mul d.vpos (by have := d.qb; rw [Int.add_mul, Int.one_mul]; omega)
  omega
theorem prod (d : Digit u v v1 v0 u1 Q) {q r : Int} (h : q * v1 + r = u) : q * v = (u - r) * 4294967296 + q * v0 := by
  rw [d.hv, Int.mul_add, ← Int.mul_assoc, show q * v1 = u - r by omega]
/-- The test says yes: the guess is too great. -/
theorem yes (d : Digit u v v1 v0 u1 Q) {q r : Int} (h : q * v1 + r = u) (ht : 4294967296 ≤ q ∨ 4294967296 * r + u1 < q * v0) : Q ≤ q - 1 := by
  rcases ht with ht | ht
  · have := d.qB; omega
  · have := d.below (q := q) (by rw [d.prod h]; omega); omega
/-- It says no: the guess is right. -/
theorem no (d : Digit u v v1 v0 u1 Q) {q r : Int} (h : q * v1 + r = u) (hq : Q ≤ q) (ht : q * v0 ≤ 4294967296 * r + u1) : q = Q := by
  have := d.above (q := q) (by rw [d.prod h]; omega); omega
/-- What is left over is great: the guess is right. -/
theorem out (d : Digit u v v1 v0 u1 Q) {q r : Int} (h : q * v1 + r = u) (hq : Q ≤ q) (hB : q ≤ 4294967296) (hr : 4294967296 ≤ r) : q = Q := by
  refine d.no h hq ?_
  have h0 := d.q0
  have h1 : q * v0 ≤ 4294967296 * v0 := Int.mul_le_mul_of_nonneg_right hB d.v0a
  have := d.v0b; have := d.u1a; omega
theorem small (d : Digit u v v1 v0 u1 Q) {q : Int} (h0 : 0 ≤ q) (h1 : q < 4294967296) : 0 ≤ q * v0 ∧ q * v0 < 18446744073709551616 := by
  have h2 : q * v0 ≤ 4294967295 * v0 := Int.mul_le_mul_of_nonneg_right (by omega) d.v0a
  have := d.v0b
  exact ⟨Int.mul_nonneg h0 d.v0a, by omega⟩
/-- The first guess. -/
theorem init (d : Digit u v v1 v0 u1 Q) : Q ≤ u / v1 ∧ u / v1 ≤ 4294967297 ∧ u / v1 * v1 + (u - u / v1 * v1) = u ∧ 0 ≤ u - u / v1 * v1 ∧ u - u / v1 * v1 < v1 := by
  have h1 := d.v1a
  have hd := Int.mul_ediv_add_emod u v1
  have hm := Int.emod_nonneg u (show v1 ≠ 0 by omega)
  have hl := Int.emod_lt_of_pos u (show 0 < v1 by omega)
  rw [Int.mul_comm] at hd
  refine ⟨?_, ?_, by omega, by omega, by omega⟩
  · rw [Int.le_ediv_iff_mul_le (by omega)]
    have h := d.qa; rw [d.hv, Int.mul_add, ← Int.mul_assoc] at h
    have := Int.mul_nonneg d.q0 d.v0a; have := d.u1b
    omega
  · have : u / v1 < 4294967298 := by
      rw [Int.ediv_lt_iff_lt_mul (by omega)]
      have := d.ub; have := d.hv; have := d.v0b; omega
    omega
end Digit
/-- What is left behind a digit, modulo 2^64. -/
theorem rest_wrap {u v u1 Q : Int} (h0 : Q * v ≤ u * 4294967296 + u1) (h1 : u * 4294967296 + u1 < Q * v + v) (hv : v < 18446744073709551616) :
    IntKind.u64.wrap (IntKind.u64.wrap (IntKind.u64.wrap (u * 4294967296) + u1) - IntKind.u64.wrap (Q * v)) = u * 4294967296 + u1 - Q * v := by
  simp only [IntKind.wrap_u64]
  generalize Q * v = z at *
  omega
theorem div_l1 {u v v1 v0 u1 Q q1 s : Int} (d : Digit u v v1 v0 u1 Q) (hv : v < 18446744073709551616) (hs : 0 ≤ s) :
    ∀ (n k : Nat) (q r : Int), q * v1 + r = u → Q ≤ q → q ≤ 4294967297 → 0 ≤ r → r < 4294967296 → 4294967296 - r ≤ n * 2147483648 → 2 * n + 2 ≤ k →
    bits_Div64.l1 k v s v1 v0 u1 q1 r u q = some (IntKind.u64.wrap (IntKind.u64.wrap (q1 * 4294967296) + Q), shr .u64 (u * 4294967296 + u1 - Q * v) s) := by
  intro n
  induction n with
  | zero => intro k q r h hQ hq hr0 hr1 hn hk; omega
  | succ n ih =>
    intro k q r h hQ hq hr0 hr1 hn hk
    obtain ⟨k, rfl⟩ : ∃ m, k = m + 2 := ⟨k - 2, by omega⟩
    have hQ0 := d.q0; have h1a := d.v1a; have h1b := d.v1b; have hua := d.u1a; have hub := d.u1b
    have key : ∀ b : Bool, (b = true ↔ (4294967296 ≤ q ∨ 4294967296 * r + u1 < q * v0)) →
        bits_Div64.j4 (k + 1) v s v1 v0 u1 q1 r u q b = some (IntKind.u64.wrap (IntKind.u64.wrap (q1 * 4294967296) + Q), shr .u64 (u * 4294967296 + u1 - Q * v) s) := by
      intro b hb
      simp only [bits_Div64.j4]
      cases b with
      | true =>
        have ht := hb.mp rfl
        have hy := d.yes h ht
        rw [if_pos rfl, u64_id (n := r + v1) (by omega) (by omega), u64_id (n := q - 1) (by omega) (by omega)]
        have h' : (q - 1) * v1 + (r + v1) = u := by rw [Int.sub_mul, Int.one_mul]; omega
        by_cases hr' : 4294967296 ≤ r + v1
        · rw [if_pos hr', if_pos hs, d.out h' hy (by omega) hr', rest_wrap d.qa d.qb hv]
        · rw [if_neg hr']
          exact ih k (q - 1) (r + v1) h' hy (by omega) (by omega) (by omega) (by omega) (by omega)
      | false =>
        have ht : ¬ (4294967296 ≤ q ∨ 4294967296 * r + u1 < q * v0) := fun h => by have := hb.mpr h; cases this
        have e := d.no h hQ (by omega)
        rw [if_neg (by simp), if_pos hs, e, rest_wrap d.qa d.qb hv]
    simp only [bits_Div64.l1]
    by_cases hq' : 4294967296 ≤ q
    · rw [if_pos hq']; exact key true ⟨fun _ => .inl hq', fun _ => rfl⟩
    · rw [if_neg hq']
      have hsm := d.small (q := q) (by omega) (by omega)
      refine key _ ?_
      rw [u64_id (n := q * v0) hsm.1 hsm.2, u64_id (n := 4294967296 * r) (by omega) (by omega), u64_id (n := 4294967296 * r + u1) (by omega) (by omega), decide_eq_true_eq]
      omega
theorem div_j2 {v v1 v0 u1 Q s u2 u0 Q1 : Int} (d1 : Digit u2 v v1 v0 u1 Q1) (d : Digit (u2 * 4294967296 + u1 - Q1 * v) v v1 v0 u0 Q) (hv : v < 18446744073709551616) (hs : 0 ≤ s) (k : Nat) (hk : 7 ≤ k) :
    bits_Div64.j2 k v s v1 v0 u2 u1 u0 Q1 = some (IntKind.u64.wrap (IntKind.u64.wrap (Q1 * 4294967296) + Q), shr .u64 ((u2 * 4294967296 + u1 - Q1 * v) * 4294967296 + u0 - Q * v) s) := by
  obtain ⟨k, rfl⟩ : ∃ m, k = m + 1 := ⟨k - 1, by omega⟩
  have h1 := d.v1a; have h2 := d.v1b; have hua := d.ua; have hub := d.ub
  simp only [bits_Div64.j2]
  rw [if_neg (by omega), rest_wrap d1.qa d1.qb hv]
  generalize hu : u2 * 4294967296 + u1 - Q1 * v = u at *
  obtain ⟨i1, i2, i3, i4, i5⟩ := d.init
  have h0 : 0 ≤ u / v1 := Int.ediv_nonneg hua (by omega)
  rw [Int.tdiv_eq_ediv_of_nonneg hua, u64_id (n := u / v1) h0 (by omega)]
  have e : IntKind.u64.wrap (u - IntKind.u64.wrap (u / v1 * v1)) = u - u / v1 * v1 := by
    have : 0 ≤ u / v1 * v1 := Int.mul_nonneg h0 (by omega)
    rw [u64_id (n := u / v1 * v1) this (by omega), u64_id (by omega) (by omega)]
  rw [e]
  exact div_l1 d hv hs 2 k (u / v1) (u - u / v1 * v1) i3 i1 i2 i4 (by omega) (by omega) (by omega)
theorem div_l0 {u v v1 v0 u1 u0 Q Q0 s : Int} (d : Digit u v v1 v0 u1 Q) (d0 : Digit (u * 4294967296 + u1 - Q * v) v v1 v0 u0 Q0) (hv : v < 18446744073709551616) (hs : 0 ≤ s) :
    ∀ (n k : Nat) (q r : Int), q * v1 + r = u → Q ≤ q → q ≤ 4294967297 → 0 ≤ r → r < 4294967296 → 4294967296 - r ≤ n * 2147483648 → 2 * n + 9 ≤ k →
    bits_Div64.l0 k v s v1 v0 u u1 u0 q r = some (IntKind.u64.wrap (IntKind.u64.wrap (Q * 4294967296) + Q0), shr .u64 ((u * 4294967296 + u1 - Q * v) * 4294967296 + u0 - Q0 * v) s) := by
  intro n
  induction n with
  | zero => intro k q r h hQ hq hr0 hr1 hn hk; omega
  | succ n ih =>
    intro k q r h hQ hq hr0 hr1 hn hk
    obtain ⟨k, rfl⟩ : ∃ m, k = m + 2 := ⟨k - 2, by omega⟩
    have hQ0 := d.q0; have h1a := d.v1a; have h1b := d.v1b; have hua := d.u1a; have hub := d.u1b
    have key : ∀ b : Bool, (b = true ↔ (4294967296 ≤ q ∨ 4294967296 * r + u1 < q * v0)) →
        bits_Div64.j1 (k + 1) v s v1 v0 u u1 u0 q r b = some (IntKind.u64.wrap (IntKind.u64.wrap (Q * 4294967296) + Q0), shr .u64 ((u * 4294967296 + u1 - Q * v) * 4294967296 + u0 - Q0 * v) s) := by
      intro b hb
      simp only [bits_Div64.j1]
      cases b with
      | true =>
        have ht := hb.mp rfl
        have hy := d.yes h ht
        rw [if_pos rfl, u64_id (n := r + v1) (by omega) (by omega), u64_id (n := q - 1) (by omega) (by omega)]
        have h' : (q - 1) * v1 + (r + v1) = u := by rw [Int.sub_mul, Int.one_mul]; omega
        by_cases hr' : 4294967296 ≤ r + v1
        · rw [if_pos hr', d.out h' hy (by omega) hr']
          exact div_j2 d d0 hv hs k (by omega)
        · rw [if_neg hr']
          exact ih k (q - 1) (r + v1) h' hy (by omega) (by omega) (by omega) (by omega) (by omega)
      | false =>
        have ht : ¬ (4294967296 ≤ q ∨ 4294967296 * r + u1 < q * v0) := fun h => by have := hb.mpr h; cases this
        have e := d.no h hQ (by omega)
        rw [if_neg (by simp), e]
        exact div_j2 d d0 hv hs k (by omega)
    simp only [bits_Div64.l0]
    by_cases hq' : 4294967296 ≤ q
    · rw [if_pos hq']; exact key true ⟨fun _ => .inl hq', fun _ => rfl⟩
    · rw [if_neg hq']
      have hsm := d.small (q := q) (by omega) (by omega)
      refine key _ ?_
      rw [u64_id (n := q * v0) hsm.1 hsm.2, u64_id (n := 4294967296 * r) (by omega) (by omega), u64_id (n := 4294967296 * r + u1) (by omega) (by omega), decide_eq_true_eq]
      omega
theorem bitLen_low : ∀ (f x : Nat), x ≠ 0 → x < 2 ^ f → 2 ^ (Lib.bitLenAux f x - 1) ≤ x ∧ x < 2 ^ Lib.bitLenAux f x ∧ 1 ≤ Lib.bitLenAux f x ∧ Lib.bitLenAux f x ≤ f := by
  intro f
  induction f with
  | zero => intro x h0 h1; simp at h1; omega
  | succ f ih =>
    intro x h0 h1
    simp only [Lib.bitLenAux]
    rw [if_neg h0]
    by_cases hx : x / 2 = 0
    · have : x = 1 := by omega
      subst this
      have : Lib.bitLenAux f (1 / 2) = 0 := by cases f <;> simp [Lib.bitLenAux]
      rw [this]; simp
    · obtain ⟨a, b, c, e⟩ := ih (x / 2) hx (by rw [Nat.pow_succ] at h1; omega)
      have e1 : 1 + Lib.bitLenAux f (x / 2) - 1 = (Lib.bitLenAux f (x / 2) - 1) + 1 := by omega
      refine ⟨?_, ?_, by omega, by omega⟩
      · rw [e1, Nat.pow_succ]; omega
      · rw [Nat.add_comm 1, Nat.pow_succ]; omega
theorem bitLen_bounds (x : Nat) (h0 : x ≠ 0) (h1 : x < 18446744073709551616) : 2 ^ (Lib.bitLen x - 1) ≤ x ∧ x < 2 ^ Lib.bitLen x ∧ 1 ≤ Lib.bitLen x ∧ Lib.bitLen x ≤ 64 :=
  bitLen_low 64 x h0 h1
theorem or_add (p : Nat) (a b : Nat) (hb : b < 2 ^ p) : (a * 2 ^ p) ||| b = a * 2 ^ p + b := by
  rw [Nat.mul_comm, Nat.two_pow_add_eq_or_of_lt hb]
/-- The shift: how far, what the numbers become. -/
theorem div_setup (hi lo y : Nat) (hy : hi < y) (hy1 : y < 18446744073709551616) (hl : lo < 18446744073709551616) :
    ∃ s : Nat, s < 64 ∧ 64 - Lib.bitLen y = s ∧ 9223372036854775808 ≤ y * 2 ^ s ∧ y * 2 ^ s < 18446744073709551616 ∧ hi * 2 ^ s < 18446744073709551616 ∧
      lo / 2 ^ (64 - s) < 2 ^ s ∧ (hi * 18446744073709551616 + lo) * 2 ^ s = (hi * 2 ^ s + lo / 2 ^ (64 - s)) * 18446744073709551616 + lo * 2 ^ s % 18446744073709551616 := by
  obtain ⟨h1, h2, h3, h4⟩ := bitLen_bounds y (by omega) hy1
  generalize hL : Lib.bitLen y = L at *
  refine ⟨64 - L, by omega, rfl, ?_, ?_, ?_, ?_, ?_⟩
  · have : (9223372036854775808 : Nat) = 2 ^ (L - 1) * 2 ^ (64 - L) := by rw [← Nat.pow_add, show L - 1 + (64 - L) = 63 by omega]
    rw [this]; exact Nat.mul_le_mul_right _ h1
  · have : (18446744073709551616 : Nat) = 2 ^ L * 2 ^ (64 - L) := by rw [← Nat.pow_add, show L + (64 - L) = 64 by omega]
    rw [this]; exact Nat.mul_lt_mul_of_pos_right h2 (Nat.two_pow_pos _)
  · have : (18446744073709551616 : Nat) = 2 ^ L * 2 ^ (64 - L) := by rw [← Nat.pow_add, show L + (64 - L) = 64 by omega]
    rw [this]; exact Nat.mul_lt_mul_of_pos_right (by omega) (Nat.two_pow_pos _)
  · rw [show 64 - (64 - L) = L by omega, Nat.div_lt_iff_lt_mul (Nat.two_pow_pos _), ← Nat.pow_add, show 64 - L + L = 64 by omega]; exact hl
  · rw [show 64 - (64 - L) = L by omega]
    have hp : (18446744073709551616 : Nat) = 2 ^ L * 2 ^ (64 - L) := by rw [← Nat.pow_add, show L + (64 - L) = 64 by omega]
    have h := Nat.div_add_mod (lo * 2 ^ (64 - L)) 18446744073709551616
    have e : lo * 2 ^ (64 - L) / 18446744073709551616 = lo / 2 ^ L := by
      rw [hp]; exact Nat.mul_div_mul_right _ _ (Nat.two_pow_pos _)
    rw [e] at h
    rw [Nat.add_mul, Nat.add_mul, Nat.mul_assoc, Nat.mul_comm 18446744073709551616 (2 ^ (64 - L)), ← Nat.mul_assoc]
    omega
theorem shl_nat (x s : Nat) (hs : s < 64) : shl .u64 (x : Int) (s : Int) = ((x * 2 ^ s % 18446744073709551616 : Nat) : Int) := by
  unfold shl
  rw [IntKind.wrap_u64, show min ((s : Int).toNat) (IntKind.u64.bits) = s by simp [IntKind.bits]; omega]
  simp
theorem shr_nat (x s : Nat) (hs : s ≤ 64) : shr .u64 (x : Int) (s : Int) = ((x / 2 ^ s : Nat) : Int) := by
  unfold shr
  rw [show min ((s : Int).toNat) (IntKind.u64.bits) = s by simp [IntKind.bits]; omega]
  simp
/-- A digit, out of the division itself. -/
theorem Digit.of {u v v1 v0 u1 : Int} (hv : v = v1 * 4294967296 + v0) (v0a : 0 ≤ v0) (v0b : v0 < 4294967296) (v1a : 2147483648 ≤ v1) (v1b : v1 < 4294967296) (ua : 0 ≤ u) (ub : u < v) (u1a : 0 ≤ u1) (u1b : u1 < 4294967296) :
    Digit u v v1 v0 u1 ((u * 4294967296 + u1) / v) := by
  have h := Int.mul_ediv_add_emod (u * 4294967296 + u1) v
  have hm := Int.emod_nonneg (u * 4294967296 + u1) (show v ≠ 0 by omega)
  have hl := Int.emod_lt_of_pos (u * 4294967296 + u1) (show 0 < v by omega)
  rw [Int.mul_comm] at h
  exact ⟨hv, v0a, v0b, v1a, v1b, ua, ub, u1a, u1b, by omega, by omega⟩
/-- math/bits.Div64: the quotient, and what is left over. -/
theorem div64_eq (hi lo y : Nat) (hy : hi < y) (hy1 : y < 18446744073709551616) (hl : lo < 18446744073709551616) (k : Nat) (hk : 20 ≤ k) :
    bits_Div64.f k hi lo y = some ((((hi * 18446744073709551616 + lo) / y : Nat) : Int), (((hi * 18446744073709551616 + lo) % y : Nat) : Int)) := by
  unfold bits_Div64.f
  rw [if_neg (by omega), if_neg (by omega)]
  by_cases h0 : hi = 0
  · subst h0
    rw [if_pos (show ((0 : Nat) : Int) = 0 from rfl), Int.tdiv_eq_ediv_of_nonneg (by omega), Int.tmod_eq_emod_of_nonneg (by omega)]
    have : lo / y ≤ lo := Nat.div_le_self _ _
    rw [Nat.zero_mul, Nat.zero_add, ← Int.natCast_ediv, ← Int.natCast_emod]
    generalize lo / y = z at *
    rw [u64_id (by omega) (by omega)]
  · rw [if_neg (by omega)]
    obtain ⟨s, hs, hL, a1, a2, a3, a4, a5⟩ := div_setup hi lo y hy hy1 hl
    obtain ⟨_, _, l1, l2⟩ := bitLen_bounds y (by omega) hy1
    have e0 : bits_LeadingZeros64.f (y : Int) = some (s : Int) := by
      unfold bits_LeadingZeros64.f bits_Len64.f
      rw [if_pos (by omega)]
      simp only [Option.bind_some, Int.toNat_natCast]
      rw [w64_id (by omega) (by omega)]
      congr 1; omega
    rw [e0]
    simp only [Option.bind_some]
    rw [u64_id (n := (s : Int)) (by omega) (by omega), if_pos (by omega), u64_id (n := 64 - (s : Int)) (by omega) (by omega), if_pos (by omega)]
    have e1 : (64 : Int) - (s : Int) = ((64 - s : Nat) : Int) := by omega
    rw [e1, shl_nat y s hs, shl_nat hi s hs, shl_nat lo s hs, shr_nat lo (64 - s) (by omega), Nat.mod_eq_of_lt a2, Nat.mod_eq_of_lt a3]
    rw [u64_or_nat _ _ a3 (by have : 2 ^ s ≤ 2 ^ 63 := Nat.pow_le_pow_right (by omega) (by omega); omega), or_add s hi _ a4]
    generalize hV : y * 2 ^ s = V at *
    generalize hU : hi * 2 ^ s + lo / 2 ^ (64 - s) = U at *
    generalize hR : lo * 2 ^ s % 18446744073709551616 = R at *
    have hR1 : R < 18446744073709551616 := by omega
    have hUV : U < V := by
      have h1 : (hi + 1) * 2 ^ s ≤ V := by rw [← hV]; exact Nat.mul_le_mul_right _ hy
      rw [Nat.add_mul, Nat.one_mul] at h1
      omega
    rw [and_low32 _ (by omega) (by omega), and_low32 _ (by omega) (by omega)]
    rw [if_neg (by omega)]
    have d1 := Digit.of (u := U) (v := V) (v1 := (V : Int) / 4294967296) (v0 := (V : Int) % 4294967296) (u1 := (R : Int) / 4294967296) (by omega) (by omega) (by omega) (by omega) (by omega) (by omega) (by omega) (by omega) (by omega)
    generalize hQ1 : ((U : Int) * 4294967296 + (R : Int) / 4294967296) / (V : Int) = Q1 at *
    have b1 := d1.qa
    have b2 := d1.qb
    have d0 := Digit.of (u := (U : Int) * 4294967296 + (R : Int) / 4294967296 - Q1 * V) (v := V) (v1 := (V : Int) / 4294967296) (v0 := (V : Int) % 4294967296) (u1 := (R : Int) % 4294967296) (by omega) (by omega) (by omega) (by omega) (by omega) (by omega) (by omega) (by omega) (by omega)
    generalize hQ0 : (((U : Int) * 4294967296 + (R : Int) / 4294967296 - Q1 * V) * 4294967296 + (R : Int) % 4294967296) / (V : Int) = Q0 at *
    obtain ⟨i1, i2, i3, i4, i5⟩ := d1.init
    have hq := Int.ediv_nonneg (a := (U : Int)) (b := (V : Int) / 4294967296) (by omega) (by omega)
    have hq2 := Int.mul_nonneg hq (show 0 ≤ (V : Int) / 4294967296 by omega)
    rw [Int.tdiv_eq_ediv_of_nonneg (by omega), u64_id (n := (U : Int) / ((V : Int) / 4294967296)) hq (by omega),
      u64_id (n := (U : Int) / ((V : Int) / 4294967296) * ((V : Int) / 4294967296)) hq2 (by omega), u64_id (n := (U : Int) - (U : Int) / ((V : Int) / 4294967296) * ((V : Int) / 4294967296)) (by omega) (by omega)]
    rw [div_l0 d1 d0 (by omega) (by omega) 2 k _ _ i3 i1 i2 i4 (by omega) (by omega) (by omega)]
    have c1 := d0.qa
    have c2 := d0.qb
    have c3 := d1.q0
    have c4 := d1.qB
    have c5 := d0.q0
    have c6 := d0.qB
    rw [u64_id (n := Q1 * 4294967296) (by omega) (by omega), u64_id (by omega) (by omega)]
    -- what it comes to
    obtain ⟨q, hq'⟩ := Int.eq_ofNat_of_zero_le (show 0 ≤ Q1 * 4294967296 + Q0 by omega)
    obtain ⟨r, hr'⟩ := Int.eq_ofNat_of_zero_le (show 0 ≤ ((U : Int) * 4294967296 + (R : Int) / 4294967296 - Q1 * V) * 4294967296 + (R : Int) % 4294967296 - Q0 * V by omega)
    rw [hr', shr_nat r s (by omega), hq']
    have hrV : r < V := by omega
    have hsum : (hi * 18446744073709551616 + lo) * 2 ^ s = q * V + r := by
      rw [a5]
      have hqV : (q : Int) * V = Q1 * V * 4294967296 + Q0 * V := by
        rw [← hq', Int.add_mul, Int.mul_assoc, Int.mul_comm 4294967296, ← Int.mul_assoc]
      have : ((U * 18446744073709551616 + R : Nat) : Int) = ((q * V + r : Nat) : Int) := by
        rw [Int.natCast_add, Int.natCast_add, Int.natCast_mul q V, hqV]
        omega
      exact Int.natCast_inj.mp this
    obtain ⟨M, hM⟩ : ∃ M, M = hi * 18446744073709551616 + lo := ⟨_, rfl⟩
    rw [← hM] at hsum ⊢
    have hp := Nat.two_pow_pos s
    have hdiv : M / y = q := by
      have : M * 2 ^ s / (y * 2 ^ s) = q := by
        rw [hsum, hV]
        rw [Nat.mul_comm q V, Nat.mul_add_div (by omega), Nat.div_eq_of_lt hrV]; rfl
      rwa [Nat.mul_div_mul_right _ _ hp] at this
    have hmod : M % y = r / 2 ^ s := by
      have : M * 2 ^ s % (y * 2 ^ s) = r := by
        rw [hsum, hV, Nat.mul_comm q V, Nat.mul_add_mod, Nat.mod_eq_of_lt hrV]
      rw [Nat.mul_mod_mul_right] at this
      rw [← this, Nat.mul_div_cancel _ hp]
    rw [hdiv, hmod]
end Go.Proofs.Ytmdfcinjmlagcaa.P
namespace Go.Proofs.Ytmdfcinjmlagcaa.P
open Go.RowKit Go.Proofs.YtmdfcinjmlagcaaW.PrintWords Go.Proofs.YtmdfcinjmlagcaaW.PrintLast Go.Proofs.YtmdfcinjmlagcaaW.PrintMore
/-- Is it a number of 64 bits? -/
def I64 (x : Int) : Prop := -9223372036854775808 ≤ x ∧ x ≤ 9223372036854775807
instance (x : Int) : Decidable (I64 x) := by unfold I64; infer_instance
/-- A number and true, or 0 and false. -/
def num (x : Int) : Int × Bool := if I64 x then (x, true) else (0, false)
theorem num_yes {x : Int} (h : I64 x) : num x = (x, true) := by unfold num; rw [if_pos h]
theorem num_no {x : Int} (h : ¬ I64 x) : num x = (0, false) := by unfold num; rw [if_neg h]
/-- The floor of a quotient. -/
def fl (p c : Int) : Int := if 0 < c then p / c else (-p) / (-c)
theorem fl_spec (p : Int) {c : Int} (hc : c ≠ 0) : ∃ m, fl p c * c + m = p ∧ (0 < c → 0 ≤ m ∧ m < c) ∧ (c < 0 → c < m ∧ m ≤ 0) := by
  unfold fl
  by_cases h : 0 < c
  · rw [if_pos h]
    refine ⟨p % c, Int.ediv_mul_add_emod p c, fun _ => ⟨Int.emod_nonneg _ hc, Int.emod_lt_of_pos _ h⟩, fun h' => by omega⟩
  · rw [if_neg h]
    have e := Int.ediv_mul_add_emod (-p) (-c)
    rw [Int.mul_neg] at e
    have h1 := Int.emod_nonneg (-p) (show -c ≠ 0 by omega)
    have h2 := Int.emod_lt_of_pos (-p) (show 0 < -c by omega)
    exact ⟨-((-p) % (-c)), by omega, fun h' => by omega, fun _ => by omega⟩
theorem fl_unique {p c f m : Int} (hc : c ≠ 0) (h : f * c + m = p) (h1 : 0 < c → 0 ≤ m ∧ m < c) (h2 : c < 0 → c < m ∧ m ≤ 0) : fl p c = f := by
  obtain ⟨m', e, e1, e2⟩ := fl_spec p hc
  have key : (fl p c - f) * c = m - m' := by rw [Int.sub_mul]; omega
  rcases Int.lt_or_gt_of_ne hc with hn | hp
  · have a := e2 hn; have b := h2 hn
    have k1 : (fl p c - f) * c < (-1) * c := by omega
    have k2 : 1 * c < (fl p c - f) * c := by omega
    have l1 : -1 < fl p c - f := by
      rcases Int.lt_or_le (-1) (fl p c - f) with h | h
      · exact h
      · have := Int.mul_le_mul_of_nonpos_right h (Int.le_of_lt hn); omega
    have l2 : fl p c - f < 1 := by
      rcases Int.lt_or_le (fl p c - f) 1 with h | h
      · exact h
      · have := Int.mul_le_mul_of_nonpos_right h (Int.le_of_lt hn); omega
    omega
  · have a := e1 hp; have b := h1 hp
    have l1 : -1 < fl p c - f := lt_of_mul hp (by omega)
    have l2 : fl p c - f < 1 := lt_of_mul hp (by omega)
    omega
theorem mul_bound {a b : Int} {L M : Nat} (ha : a.natAbs ≤ L) (hb : b.natAbs ≤ M) : (a * b).natAbs ≤ L * M := by
  rw [Int.natAbs_mul]; exact Nat.mul_le_mul ha hb
theorem prod_bound {a b : Int} (ha : I64 a) (hb : I64 b) : (a * b).natAbs ≤ 85070591730234615865843651857942052864 := by
  have := mul_bound (a := a) (b := b) (L := 9223372036854775808) (M := 9223372036854775808) (by unfold I64 at ha; omega) (by unfold I64 at hb; omega)
  exact this
theorem times_eq {a b : Int} (ha : I64 a) (hb : I64 b) : fix_times.f a b = some (a * b / 18446744073709551616, a * b % 18446744073709551616) := by
  have hP := prod_bound ha hb
  unfold I64 at ha hb
  have key : ∀ (A B : Int), (A = a ∨ A = a + 18446744073709551616) → (B = b ∨ B = b + 18446744073709551616) → 0 ≤ A → A < 18446744073709551616 → 0 ≤ B → B < 18446744073709551616 →
      A * B / 18446744073709551616 = a * b / 18446744073709551616 + (if A = a then 0 else b) + (if B = b then 0 else a) + (if A = a ∨ B = b then 0 else 18446744073709551616) ∧ A * B % 18446744073709551616 = a * b % 18446744073709551616 := by
    intro A B h1 h2 _ _ _ _
    rcases h1 with rfl | rfl <;> rcases h2 with rfl | rfl
    · simp
    · rw [Int.mul_add, if_pos rfl, if_neg (by omega), if_pos (by simp)]
      generalize A * b = z at *
      omega
    · rw [Int.add_mul, if_neg (by omega), if_pos rfl, if_pos (by simp)]
      generalize a * B = z at *
      omega
    · rw [Int.add_mul, Int.mul_add, Int.mul_add, if_neg (by omega), if_neg (by omega), if_neg (by omega)]
      generalize a * b = z at *
      omega
  unfold fix_times.f bits_Mul64.f
  have wa : IntKind.u64.wrap a = a ∨ IntKind.u64.wrap a = a + 18446744073709551616 := by rw [IntKind.wrap_u64]; omega
  have wb : IntKind.u64.wrap b = b ∨ IntKind.u64.wrap b = b + 18446744073709551616 := by rw [IntKind.wrap_u64]; omega
  have ra : 0 ≤ IntKind.u64.wrap a ∧ IntKind.u64.wrap a < 18446744073709551616 := by rw [IntKind.wrap_u64]; omega
  have rb : 0 ≤ IntKind.u64.wrap b ∧ IntKind.u64.wrap b < 18446744073709551616 := by rw [IntKind.wrap_u64]; omega
  generalize hA : IntKind.u64.wrap a = A at *
  generalize hB : IntKind.u64.wrap b = B at *
  obtain ⟨k1, k2⟩ := key A B wa wb ra.1 ra.2 rb.1 rb.2
  rw [if_pos (by omega)]
  simp only [Option.bind_some]
  rw [k1, k2]
  generalize a * b = P at *
  have hq : -4611686018427387904 ≤ P / 18446744073709551616 ∧ P / 18446744073709551616 ≤ 4611686018427387904 := by omega
  generalize hr : P % 18446744073709551616 = r at *
  generalize P / 18446744073709551616 = q at *
  clear key k1 k2
  by_cases h1 : a < 0
  · have : A = a + 18446744073709551616 := by omega
    rw [if_pos h1, if_neg (show ¬ A = a by omega)]
    by_cases h2 : b < 0
    · rw [if_pos h2, if_neg (show ¬ B = b by omega), if_neg (by omega)]
      congr 2; simp only [IntKind.wrap_u64, wrap64]; omega
    · rw [if_neg h2, if_pos (show B = b by omega), if_pos (by omega)]
      congr 2; simp only [IntKind.wrap_u64, wrap64]; omega
  · rw [if_neg h1, if_pos (show A = a by omega)]
    by_cases h2 : b < 0
    · rw [if_pos h2, if_neg (show ¬ B = b by omega), if_pos (by omega)]
      congr 2; simp only [IntKind.wrap_u64, wrap64]; omega
    · rw [if_neg h2, if_pos (show B = b by omega), if_pos (by omega)]
      congr 2; simp only [wrap64]; omega
theorem abs_eq {P : Int} (hP : P.natAbs ≤ 85070591730234615865843651857942052864) :
    fix_wide_abs.f (P / 18446744073709551616) (P % 18446744073709551616) = some (((P.natAbs / 18446744073709551616 : Nat) : Int), ((P.natAbs % 18446744073709551616 : Nat) : Int), decide (P < 0)) := by
  unfold fix_wide_abs.f
  by_cases h : P < 0
  · rw [if_neg (by omega), decide_eq_true h]
    have e1 : sub64d 0 (P % 18446744073709551616) 0 = ((P.natAbs % 18446744073709551616 : Nat) : Int) := by
      unfold sub64d; simp only [Int.toNat_zero]; congr 1; omega
    have e2 : sub64b 0 (P % 18446744073709551616) 0 = if P % 18446744073709551616 = 0 then 0 else 1 := by
      unfold sub64b; simp only [Int.toNat_zero]
      by_cases h0 : P % 18446744073709551616 = 0
      · rw [if_pos h0, if_neg (by omega)]; rfl
      · rw [if_neg h0, if_pos (by omega)]; rfl
    rw [e1, e2]
    have e3 : sub64d 0 (IntKind.u64.wrap (P / 18446744073709551616)) (if P % 18446744073709551616 = 0 then 0 else 1) = ((P.natAbs / 18446744073709551616 : Nat) : Int) := by
      rw [IntKind.wrap_u64]
      unfold sub64d; simp only [Int.toNat_zero]
      by_cases h0 : P % 18446744073709551616 = 0
      · rw [if_pos h0]; simp only [Int.toNat_zero]; congr 1; omega
      · rw [if_neg h0]; simp only [Int.toNat_one]; congr 1; omega
    rw [e3]
  · rw [if_pos (by omega), decide_eq_false h, u64_id (by omega) (by omega)]
    congr 2
    · omega
    · congr 1; omega
theorem size_eq {a : Int} (ha : I64 a) : fix_size.f a = some (a.natAbs : Int) := by
  unfold fix_size.f; unfold I64 at ha
  by_cases h : a < 0
  · rw [if_pos h]; congr 1; simp only [IntKind.wrap_u64]; omega
  · rw [if_neg h]; congr 1; simp only [IntKind.wrap_u64]; omega
/-- The answer, out of the sizes' quotient. -/
theorem fl_abs {P c : Int} (hc : c ≠ 0) :
    fl P c = if P < 0 ↔ c < 0 then ((P.natAbs / c.natAbs : Nat) : Int) else if P.natAbs % c.natAbs = 0 then -((P.natAbs / c.natAbs : Nat) : Int) else -((P.natAbs / c.natAbs : Nat) : Int) - 1 := by
  have hd := Nat.div_add_mod P.natAbs c.natAbs
  have hl := Nat.mod_lt P.natAbs (show 0 < c.natAbs by omega)
  generalize hq : P.natAbs / c.natAbs = q at *
  generalize hr : P.natAbs % c.natAbs = r at *
  have hd' : ((c.natAbs : Int)) * q + r = (P.natAbs : Int) := by rw [← Int.natCast_mul]; omega
  by_cases hn : c < 0
  · have ec : (c.natAbs : Int) = -c := by omega
    rw [ec, Int.neg_mul] at hd'
    by_cases hP : P < 0
    · rw [if_pos (by omega)]
      exact fl_unique (m := -r) hc (by rw [Int.mul_comm]; omega) (fun h => by omega) (fun _ => by omega)
    · rw [if_neg (by omega)]
      by_cases h0 : r = 0
      · rw [if_pos h0]
        exact fl_unique (m := 0) hc (by rw [Int.neg_mul, Int.mul_comm]; omega) (fun h => by omega) (fun _ => by omega)
      · rw [if_neg h0]
        exact fl_unique (m := c + r) hc (by rw [Int.sub_mul, Int.neg_mul, Int.one_mul, Int.mul_comm]; omega) (fun h => by omega) (fun _ => by omega)
  · have ec : (c.natAbs : Int) = c := by omega
    rw [ec] at hd'
    by_cases hP : P < 0
    · rw [if_neg (by omega)]
      by_cases h0 : r = 0
      · rw [if_pos h0]
        exact fl_unique (m := 0) hc (by rw [Int.neg_mul, Int.mul_comm]; omega) (fun _ => by omega) (fun h => by omega)
      · rw [if_neg h0]
        exact fl_unique (m := c - r) hc (by rw [Int.sub_mul, Int.neg_mul, Int.one_mul, Int.mul_comm]; omega) (fun _ => by omega) (fun h => by omega)
    · rw [if_pos (by omega)]
      exact fl_unique (m := r) hc (by rw [Int.mul_comm]; omega) (fun _ => by omega) (fun h => by omega)
theorem narrowed_f (q : Int) : fix_narrowed.f q false = some (decide (q ≤ 9223372036854775807)) := by
  simp [fix_narrowed.f]
theorem narrowed_t (q : Int) : fix_narrowed.f q true = some (decide (q ≤ 9223372036854775808)) := by
  simp only [fix_narrowed.f, if_true]
theorem up_wrap {q : Nat} (h1 : ¬ IntKind.u64.wrap ((q : Int) + 1) = 0) (hq : q < 18446744073709551616) : IntKind.u64.wrap ((q : Int) + 1) = q + 1 := by
  rw [IntKind.wrap_u64] at h1 ⊢; omega
theorem up_over {q : Nat} (h1 : IntKind.u64.wrap ((q : Int) + 1) = 0) : ¬ I64 (-(q : Int) - 1) := by
  rw [IntKind.wrap_u64] at h1; unfold I64; omega
theorem down_wrap {q : Int} (h0 : 0 ≤ q) (h : q ≤ 9223372036854775808) : wrap64 (IntKind.u64.wrap (-q)) = -q := by
  simp only [IntKind.wrap_u64, wrap64]; omega
theorem muldiv_t (q r : Int) (k : Nat) : fix_MulDiv.j0 (k + 1) q r true = if q ≤ 9223372036854775807 then some (wrap64 q, true) else some (0, false) := by
  simp [fix_MulDiv.j0, narrowed_f]
theorem muldiv_f0 (q : Int) (k : Nat) : fix_MulDiv.j0 (k + 1) q 0 false = if q ≤ 9223372036854775808 then some (wrap64 (IntKind.u64.wrap (-q)), true) else some (0, false) := by
  simp [fix_MulDiv.j0, narrowed_t]
theorem muldiv_f (q r : Int) (h : 0 < r) (k : Nat) : fix_MulDiv.j0 (k + 1) q r false = if IntKind.u64.wrap (q + 1) = 0 then some (0, false) else if IntKind.u64.wrap (q + 1) ≤ 9223372036854775808 then some (wrap64 (IntKind.u64.wrap (-(IntKind.u64.wrap (q + 1)))), true) else some (0, false) := by
  simp only [fix_MulDiv.j0, narrowed_t, Option.bind_some, decide_eq_true_eq]
  rw [if_neg (by simp), if_pos h]
theorem muldiv_up (q r : Nat) (hr : 0 < r) (hq : q < 18446744073709551616) (k : Nat) : fix_MulDiv.j0 (k + 1) q r false = some (num (-(q : Int) - 1)) := by
  rw [muldiv_f _ _ (by omega)]
  by_cases h1 : IntKind.u64.wrap ((q : Int) + 1) = 0
  · rw [if_pos h1, num_no (up_over h1)]
  · rw [if_neg h1]
    have e := up_wrap h1 hq
    generalize IntKind.u64.wrap ((q : Int) + 1) = z at *
    subst e
    by_cases h : (q : Int) + 1 ≤ 9223372036854775808
    · rw [if_pos h, down_wrap (by omega) h, num_yes (by unfold I64; omega), Int.neg_add]; rfl
    · rw [if_neg h, num_no (by unfold I64; omega)]
theorem muldiv_j0 (q r : Nat) (hq : q < 18446744073709551616) (b : Bool) (k : Nat) :
    fix_MulDiv.j0 (k + 1) q r b = some (num (if b then (q : Int) else if r = 0 then -(q : Int) else -(q : Int) - 1)) := by
  cases b with
  | true =>
    rw [muldiv_t, if_pos rfl]
    by_cases h : (q : Int) ≤ 9223372036854775807
    · rw [if_pos h, w64_id (by omega) (by omega), num_yes (by unfold I64; omega)]
    · rw [if_neg h, num_no (by unfold I64; omega)]
  | false =>
    rw [if_neg (show ¬ (false = true) by simp)]
    by_cases h0 : r = 0
    · subst h0
      rw [if_pos rfl, show ((0 : Nat) : Int) = 0 from rfl, muldiv_f0]
      by_cases h : (q : Int) ≤ 9223372036854775808
      · rw [if_pos h, down_wrap (by omega) h, num_yes (by unfold I64; omega)]
      · rw [if_neg h, num_no (by unfold I64; omega)]
    · rw [if_neg h0, muldiv_up q r (by omega) hq]
/-- The floor of a product by a number. -/
def md (a b c : Int) : Int × Bool := if c = 0 then (0, false) else num (fl (a * b) c)
theorem mulDiv_eq {a b c : Int} (ha : I64 a) (hb : I64 b) (hc : I64 c) (k : Nat) (hk : 20 ≤ k) : fix_MulDiv.f k a b c = some (md a b c) := by
  unfold fix_MulDiv.f md
  by_cases h0 : c = 0
  · rw [if_pos h0, if_pos h0]
  · rw [if_neg h0, if_neg h0, times_eq ha hb]
    simp only [Option.bind_some]
    have hP := prod_bound ha hb
    generalize a * b = P at *
    rw [abs_eq hP]
    simp only [Option.bind_some]
    rw [size_eq hc]
    simp only [Option.bind_some]
    unfold I64 at hc
    have hfa := fl_abs (P := P) h0
    have hd := Nat.div_add_mod P.natAbs c.natAbs
    have hl := Nat.mod_lt P.natAbs (show 0 < c.natAbs by omega)
    by_cases hbig : ((P.natAbs / 18446744073709551616 : Nat) : Int) ≥ (c.natAbs : Int)
    · rw [if_pos hbig]
      have h1 : c.natAbs ≤ P.natAbs / 18446744073709551616 := by omega
      have h2 : 18446744073709551616 ≤ P.natAbs / c.natAbs := by
        rw [Nat.le_div_iff_mul_le (by omega), Nat.mul_comm]
        exact (Nat.le_div_iff_mul_le (by omega)).mp h1
      have : ¬ I64 (fl P c) := by
        rw [hfa]; unfold I64; split
        · omega
        · split <;> omega
      unfold num; rw [if_neg this]
    · rw [if_neg hbig]
      have hm : P.natAbs = P.natAbs / 18446744073709551616 * 18446744073709551616 + P.natAbs % 18446744073709551616 := by omega
      rw [div64_eq _ _ _ (by omega) (by omega) (by omega) k hk, ← hm]
      simp only [Option.bind_some]
      have hq : P.natAbs / c.natAbs < 18446744073709551616 := by
        rw [Nat.div_lt_iff_lt_mul (by omega)]
        have : P.natAbs / 18446744073709551616 < c.natAbs := by omega
        have := (Nat.div_lt_iff_lt_mul (show 0 < 18446744073709551616 by omega)).mp this
        rwa [Nat.mul_comm] at this
      obtain ⟨k, rfl⟩ : ∃ m, k = m + 1 := ⟨k - 1, by omega⟩
      rw [hfa]
      generalize P.natAbs / c.natAbs = q at *
      generalize P.natAbs % c.natAbs = r at *
      by_cases hs : P < 0 ↔ c < 0
      · rw [if_pos hs, if_pos (by simp [hs]), muldiv_j0 q r hq]; rfl
      · have hbe : (decide (P < 0) == decide (c < 0)) = false := by
          by_cases x : P < 0 <;> by_cases y : c < 0 <;> simp [x, y] at hs ⊢
        rw [if_neg hs, if_neg (by rw [hbe]; simp)]
        by_cases hq0 : (q : Int) = 0
        · rw [if_pos hq0, muldiv_j0 q r hq]
          by_cases hr0 : r = 0
          · have : ((r : Int) == 0) = true := by simp [hr0]
            rw [this, if_pos hr0]; simp; congr 1; omega
          · have : ((r : Int) == 0) = false := by simp [hr0]
            rw [this, if_neg hr0]; simp
        · rw [if_neg hq0, muldiv_j0 q r hq]; simp
theorem floor_eq {a b : Int} (ha : I64 a) (hb : I64 b) (k : Nat) (hk : 20 ≤ k) : fix_Floor.f k a b = some (md a 1 b) := by
  unfold fix_Floor.f
  rw [mulDiv_eq ha (by unfold I64; omega) hb k hk]
  rfl
theorem fl_over {a b : Int} (ha : I64 a) (hb : I64 b) (h0 : b ≠ 0) (h : ¬ I64 (fl a b)) : a = -9223372036854775808 ∧ b = -1 := by
  rw [fl_abs h0] at h
  unfold I64 at *
  have hd := Nat.div_add_mod a.natAbs b.natAbs
  have hle := Nat.div_le_self a.natAbs b.natAbs
  have hl := Nat.mod_lt a.natAbs (show 0 < b.natAbs by omega)
  by_cases h1 : b.natAbs = 1
  · rw [h1, Nat.div_one, Nat.mod_one] at h
    simp only [if_true] at h
    split at h <;> omega
  · have h2 : a.natAbs / b.natAbs ≤ a.natAbs / 2 := Nat.div_le_div_left (by omega) (by omega)
    generalize a.natAbs / b.natAbs = q at *
    split at h
    · omega
    · split at h <;> omega
end Go.Proofs.Ytmdfcinjmlagcaa.P
namespace Go.Proofs.Ytmdfcinjmlagcaa.P
open Go.RowKit Go.Proofs.YtmdfcinjmlagcaaW.PrintWords Go.Proofs.YtmdfcinjmlagcaaW.PrintLast Go.Proofs.YtmdfcinjmlagcaaW.PrintMore
/-- A matrix that is right. -/
def Mat (a b c d x y : Int) : Prop := (-4194304 ≤ a ∧ a ≤ 4194304) ∧ (-4194304 ≤ b ∧ b ≤ 4194304) ∧ (-4194304 ≤ c ∧ c ≤ 4194304) ∧ (-4194304 ≤ d ∧ d ≤ 4194304) ∧ (-1048576 ≤ x ∧ x ≤ 1048576) ∧ (-1048576 ≤ y ∧ y ≤ 1048576)
instance (a b c d x y : Int) : Decidable (Mat a b c d x y) := by unfold Mat; infer_instance
theorem matrix_eq (a b c d x y : Int) (k : Nat) (hk : 1001 ≤ k) : field_RightMatrix.f k a b c d x y = some (decide (Mat a b c d x y)) := by
  unfold field_RightMatrix.f
  rw [within_eq _ _ _ (by simp) k hk, within_eq _ _ _ (by simp) k hk]
  simp only [Option.bind_some, decide_eq_true_eq]
  by_cases h1 : ∀ v ∈ [a, b, c, d], -4194304 ≤ v ∧ v ≤ 4194304
  · rw [if_pos h1]; congr 1; rw [decide_eq_decide]; unfold Mat; simp at h1 ⊢; omega
  · rw [if_neg h1]; congr 1; symm; apply decide_eq_false; unfold Mat; simp at h1; intro h; exact absurd h.2.2.2.1 (by have := h1 h.1.1 h.1.2 h.2.1.1 h.2.1.2 h.2.2.1.1 h.2.2.1.2; omega)
/-- A point of which no part is further than so much. -/
def Wi (x y m : Int) : Prop := -m ≤ x ∧ x ≤ m ∧ -m ≤ y ∧ y ≤ m
instance (x y m : Int) : Decidable (Wi x y m) := by unfold Wi; infer_instance
theorem awithin_eq (x y m : Int) (h : 0 ≤ m ∧ m ≤ 1073741824) : affine_within.f x y m = some (decide (Wi x y m)) := by
  unfold affine_within.f Wi
  rw [w64_id (by omega) (by omega)]
  repeat' split
  all_goals first
    | exact congrArg some (decide_eq_decide.mpr (by omega))
    | exact congrArg some (decide_eq_false (by omega)).symm
theorem mb {x y B C : Int} (h1 : -B ≤ x) (h2 : x ≤ B) (h3 : -C ≤ y) (h4 : y ≤ C) : -(B * C) ≤ x * y ∧ x * y ≤ B * C := by
  have hB : 0 ≤ B := by omega
  have hx : x.natAbs ≤ B.toNat := by omega
  have hy : y.natAbs ≤ C.toNat := by omega
  have := mul_bound hx hy
  have e : ((B.toNat * C.toNat : Nat) : Int) = B * C := by
    rw [Int.natCast_mul, Int.toNat_of_nonneg (by omega), Int.toNat_of_nonneg (by omega)]
  omega
/-- One unit's part of where it comes from, times the determinant. -/
def bk1 (d c x y p q : Int) : Int := d * (p * 20480 - x * 65536) - c * (q * 20480 - y * 65536)
theorem bk1_bd {d c x y p q : Int} (hd : -4194304 ≤ d ∧ d ≤ 4194304) (hc : -4194304 ≤ c ∧ c ≤ 4194304) (hx : -1048576 ≤ x ∧ x ≤ 1048576) (hy : -1048576 ≤ y ∧ y ≤ 1048576) (hw : Wi p q 16777216) :
    -3458764513820540928 ≤ bk1 d c x y p q ∧ bk1 d c x y p q ≤ 3458764513820540928 ∧ wrap64 (wrap64 (d * wrap64 (wrap64 (p * 20480) - wrap64 (x * 65536))) - wrap64 (c * wrap64 (wrap64 (q * 20480) - wrap64 (y * 65536)))) = bk1 d c x y p q := by
  unfold Wi at hw; unfold bk1
  have m1 := mb (x := d) (y := p * 20480 - x * 65536) (B := 4194304) (C := 412316860416) hd.1 hd.2 (by omega) (by omega)
  have m2 := mb (x := c) (y := q * 20480 - y * 65536) (B := 4194304) (C := 412316860416) hc.1 hc.2 (by omega) (by omega)
  refine ⟨by omega, by omega, ?_⟩
  rw [w64_id (n := p * 20480) (by omega) (by omega), w64_id (n := x * 65536) (by omega) (by omega), w64_id (n := q * 20480) (by omega) (by omega), w64_id (n := y * 65536) (by omega) (by omega), w64_id (n := p * 20480 - x * 65536) (by omega) (by omega), w64_id (n := q * 20480 - y * 65536) (by omega) (by omega), w64_id (n := d * (p * 20480 - x * 65536)) (by omega) (by omega), w64_id (n := c * (q * 20480 - y * 65536)) (by omega) (by omega), w64_id (by omega) (by omega)]
/-- The determinant. -/
def det (a b c d : Int) : Int := a * d - b * c
theorem det_bd {a b c d x y : Int} (h : Mat a b c d x y) : -35184372088832 ≤ det a b c d ∧ det a b c d ≤ 35184372088832 ∧ wrap64 (wrap64 (a * d) - wrap64 (b * c)) = det a b c d ∧ wrap64 (a * d) = a * d ∧ wrap64 (b * c) = b * c := by
  obtain ⟨ha, hb, hc, hd, hx, hy⟩ := h
  unfold det
  have m1 := mb ha.1 ha.2 hd.1 hd.2
  have m2 := mb hb.1 hb.2 hc.1 hc.2
  refine ⟨by omega, by omega, ?_, w64_id (by omega) (by omega), w64_id (by omega) (by omega)⟩
  rw [w64_id (n := a * d) (by omega) (by omega), w64_id (n := b * c) (by omega) (by omega), w64_id (by omega) (by omega)]
/-- Where a point of units comes from. -/
def bkS (a b c d x y p q : Int) : Int × Int × Bool :=
  if Mat a b c d x y ∧ Wi p q 16777216 ∧ det a b c d ≠ 0 then (fl (bk1 d c x y p q) (det a b c d), fl (bk1 a b y x q p) (det a b c d), true) else (0, 0, false)
theorem back_eq (a b c d x y p q : Int) (k : Nat) (hk : 2000 ≤ k) : affine_Back.f k a b c d x y p q = some (bkS a b c d x y p q) := by
  obtain ⟨k, rfl⟩ : ∃ m, k = m + 1 := ⟨k - 1, by omega⟩
  have no : ∀ e : Int, affine_Back.j0 (k + 1) e true a b c d x y p q = some (0, 0, false) := by intro e; rw [affine_Back.j0, if_pos rfl]
  unfold affine_Back.f bkS
  rw [matrix_eq _ _ _ _ _ _ _ (by omega), Option.bind_some]
  by_cases h : Mat a b c d x y
  · rw [decide_eq_true h, if_pos rfl, awithin_eq _ _ _ (by omega), Option.bind_some]
    by_cases h2 : Wi p q 16777216
    · have hdb := det_bd h
      rw [decide_eq_true h2, if_pos rfl, hdb.2.2.1]
      by_cases h3 : det a b c d = 0
      · rw [h3, show ((0 : Int) == 0) = true from rfl, no, if_neg (fun hh => hh.2.2 rfl)]
      · have hne : (det a b c d == 0) = false := by simp [h3]
        rw [hne, affine_Back.j0, if_neg (by simp), if_pos ⟨h, h2, h3⟩]
        obtain ⟨ha, hb, hc, hd, hx, hy⟩ := h
        have h2' : Wi q p 16777216 := by unfold Wi at *; omega
        have b1 := bk1_bd hd hc hx hy h2
        have b2 := bk1_bd ha hb hy hx h2'
        rw [b1.2.2, b2.2.2, floor_eq (by unfold I64; omega) (by unfold I64; omega) k (by omega), floor_eq (by unfold I64; omega) (by unfold I64; omega) k (by omega)]
        unfold md
        rw [if_neg h3, if_neg h3, Int.mul_one, Int.mul_one, num_yes, num_yes]
        · rfl
        · by_cases hi : I64 (fl (bk1 a b y x q p) (det a b c d))
          · exact hi
          · have := fl_over (by unfold I64; omega) (by unfold I64; omega) h3 hi; omega
        · by_cases hi : I64 (fl (bk1 d c x y p q) (det a b c d))
          · exact hi
          · have := fl_over (by unfold I64; omega) (by unfold I64; omega) h3 hi; omega
    · rw [decide_eq_false h2, if_neg (by simp), no, if_neg (fun hh => h2 hh.2.1)]
  · rw [decide_eq_false h, if_neg (by simp), no, if_neg (fun hh => h hh.1)]
end Go.Proofs.Ytmdfcinjmlagcaa.P
namespace Go.Proofs.Ytmdfcinjmlagcaa.P
open Go.RowKit Go.Proofs.YtmdfcinjmlagcaaW.PrintWords Go.Proofs.YtmdfcinjmlagcaaW.PrintLast Go.Proofs.YtmdfcinjmlagcaaW.PrintMore
def co1 (p q r s : Int) : Int := (p * q + r * s) / 65536
theorem co1_w {p q r s : Int} (hp : -4194304 ≤ p ∧ p ≤ 4194304) (hq : -4194304 ≤ q ∧ q ≤ 4194304) (hr : -4194304 ≤ r ∧ r ≤ 4194304) (hs : -4194304 ≤ s ∧ s ≤ 4194304) :
    wrap64 (wrap64 (p * q) + wrap64 (r * s)) = p * q + r * s ∧ -35184372088832 ≤ p * q + r * s ∧ p * q + r * s ≤ 35184372088832 ∧ -536870912 ≤ co1 p q r s ∧ co1 p q r s ≤ 536870912 := by
  have m1 := mb (x := p) (y := q) (B := 4194304) (C := 4194304) hp.1 hp.2 hq.1 hq.2
  have m2 := mb (x := r) (y := s) (B := 4194304) (C := 4194304) hr.1 hr.2 hs.1 hs.2
  unfold co1
  refine ⟨?_, by omega, by omega, by omega, by omega⟩
  rw [w64_id (n := p * q) (by omega) (by omega), w64_id (n := r * s) (by omega) (by omega), w64_id (by omega) (by omega)]
/-- Two matrices, one behind the other. -/
def coS (a b c d x y a' b' c' d' x' y' : Int) : Int × Int × Int × Int × Int × Int × Int :=
  if Mat a b c d x y ∧ Mat a' b' c' d' x' y' then
    (if Mat (co1 a a' c b') (co1 b a' d b') (co1 a c' c d') (co1 b c' d d') (co1 a x' c y' + x) (co1 b x' d y' + y) then (co1 a a' c b', co1 b a' d b', co1 a c' c d', co1 b c' d d', co1 a x' c y' + x, co1 b x' d y' + y, 0) else (0, 0, 0, 0, 0, 0, 8))
  else (0, 0, 0, 0, 0, 0, 1)
theorem compose_eq (a b c d x y a' b' c' d' x' y' : Int) (k : Nat) (hk : 2000 ≤ k) : affine_Compose.f k a b c d x y a' b' c' d' x' y' = some (coS a b c d x y a' b' c' d' x' y') := by
  obtain ⟨k, rfl⟩ : ∃ m, k = m + 1 := ⟨k - 1, by omega⟩
  have no : affine_Compose.j0 (k + 1) true a b c d x y a' b' c' d' x' y' = some (0, 0, 0, 0, 0, 0, 1) := by rw [affine_Compose.j0, if_pos rfl]
  unfold affine_Compose.f coS
  rw [matrix_eq _ _ _ _ _ _ _ (by omega), Option.bind_some]
  by_cases h : Mat a b c d x y
  · rw [decide_eq_true h, if_pos rfl, matrix_eq _ _ _ _ _ _ _ (by omega), Option.bind_some]
    by_cases h' : Mat a' b' c' d' x' y'
    · rw [decide_eq_true h', Bool.not_true, affine_Compose.j0, if_neg (by simp), if_pos ⟨h, h'⟩]
      obtain ⟨ha, hb, hc, hd, hx, hy⟩ := h
      obtain ⟨ka, kb, kc, kd, kx, ky⟩ := h'
      have w1 := co1_w ha ka hc kb
      have w2 := co1_w hb ka hd kb
      have w3 := co1_w ha kc hc kd
      have w4 := co1_w hb kc hd kd
      have w5 := co1_w (q := x') (s := y') ha (by omega) hc (by omega)
      have w6 := co1_w (q := x') (s := y') hb (by omega) hd (by omega)
      rw [w1.1, w2.1, w3.1, w4.1, w5.1, w6.1]
      show ((field_RightMatrix.f k (co1 a a' c b') (co1 b a' d b') (co1 a c' c d') (co1 b c' d d') (wrap64 (co1 a x' c y' + x)) (wrap64 (co1 b x' d y' + y))).bind fun t => if t = true then some (co1 a a' c b', co1 b a' d b', co1 a c' c d', co1 b c' d d', wrap64 (co1 a x' c y' + x), wrap64 (co1 b x' d y' + y), (0 : Int)) else some (0, 0, 0, 0, 0, 0, 8)) = _
      rw [w64_id (n := co1 a x' c y' + x) (by omega) (by omega), w64_id (n := co1 b x' d y' + y) (by omega) (by omega), matrix_eq _ _ _ _ _ _ _ (by omega), Option.bind_some]
      by_cases hm : Mat (co1 a a' c b') (co1 b a' d b') (co1 a c' c d') (co1 b c' d d') (co1 a x' c y' + x) (co1 b x' d y' + y)
      · rw [decide_eq_true hm, if_pos rfl, if_pos hm]
      · rw [decide_eq_false hm, if_neg (by simp), if_neg hm]
    · rw [decide_eq_false h', Bool.not_false, no, if_neg (fun hh => h' hh.2)]
  · rw [decide_eq_false h, if_neg (by simp), no, if_neg (fun hh => h hh.1)]
/-- Is a change right? -/
def Cxr (m0 m1 m2 m3 a0 a1 a2 a3 : Int) : Prop := ((-512 ≤ m0 ∧ m0 ≤ 512) ∧ (-512 ≤ m1 ∧ m1 ≤ 512) ∧ (-512 ≤ m2 ∧ m2 ≤ 512) ∧ (-512 ≤ m3 ∧ m3 ≤ 512)) ∧ (-255 ≤ a0 ∧ a0 ≤ 255) ∧ (-255 ≤ a1 ∧ a1 ≤ 255) ∧ (-255 ≤ a2 ∧ a2 ≤ 255) ∧ (-255 ≤ a3 ∧ a3 ≤ 255)
instance (m0 m1 m2 m3 a0 a1 a2 a3 : Int) : Decidable (Cxr m0 m1 m2 m3 a0 a1 a2 a3) := by unfold Cxr; infer_instance
theorem cx_eq (m0 m1 m2 m3 a0 a1 a2 a3 : Int) (k : Nat) (hk : 1001 ≤ k) : field_RightCx.f k m0 m1 m2 m3 a0 a1 a2 a3 = some (decide (Cxr m0 m1 m2 m3 a0 a1 a2 a3)) := by
  unfold field_RightCx.f
  rw [within_eq _ _ _ (by simp) k hk, within_eq _ _ _ (by simp) k hk, Option.bind_some]
  by_cases h : ∀ x ∈ [m0, m1, m2, m3], -512 ≤ x ∧ x ≤ 512
  · rw [decide_eq_true h, if_pos rfl]; congr 1; rw [decide_eq_decide]; unfold Cxr; simp at h ⊢; omega
  · rw [decide_eq_false h, if_neg (by simp)]; congr 1; symm; apply decide_eq_false; unfold Cxr; simp at h; intro hh; have := h hh.1.1.1 hh.1.1.2 hh.1.2.1.1 hh.1.2.1.2 hh.1.2.2.1.1 hh.1.2.2.1.2; omega
/-- A part of a colour, changed. -/
def cc (n m a : Int) : Int := mn (mx (n * m / 256 + a) 0) 255
theorem cc_w {n m a : Int} (hn : 0 ≤ n ∧ n ≤ 255) (hm : -512 ≤ m ∧ m ≤ 512) (ha : -255 ≤ a ∧ a ≤ 255) : wrap64 (n * m) = n * m ∧ wrap64 (n * m / 256 + a) = n * m / 256 + a ∧ -130560 ≤ n * m ∧ n * m ≤ 130560 := by
  have m1 := mb (x := n) (y := m) (B := 255) (C := 512) (by omega) hn.2 hm.1 hm.2
  exact ⟨w64_id (by omega) (by omega), w64_id (by omega) (by omega), by omega, by omega⟩
theorem clamp_eq (a b c : Int) : affine_clamp.f a b c = some (mn (mx a b) c) := rfl
/-- A colour, changed. -/
def colS (m0 m1 m2 m3 a0 a1 a2 a3 r g b a : Int) : Int × Int × Int × Int := if Cxr m0 m1 m2 m3 a0 a1 a2 a3 ∧ Col r g b a then (cc r m0 a0, cc g m1 a1, cc b m2 a2, cc a m3 a3) else (0, 0, 0, 0)
theorem color_eq (m0 m1 m2 m3 a0 a1 a2 a3 r g b a : Int) (k : Nat) (hk : 1100 ≤ k) : affine_Color.f k m0 m1 m2 m3 a0 a1 a2 a3 r g b a = some (colS m0 m1 m2 m3 a0 a1 a2 a3 r g b a) := by
  obtain ⟨k, rfl⟩ : ∃ m, k = m + 10 := ⟨k - 10, by omega⟩
  have no : affine_Color.j0 (k + 10) true m0 m1 m2 m3 a0 a1 a2 a3 r g b a = some (0, 0, 0, 0) := by rw [affine_Color.j0, if_pos rfl]
  unfold affine_Color.f colS
  rw [cx_eq _ _ _ _ _ _ _ _ _ (by omega), Option.bind_some]
  by_cases h : Cxr m0 m1 m2 m3 a0 a1 a2 a3
  · rw [decide_eq_true h, if_pos rfl, rgba_eq _ _ _ _ _ (by omega), Option.bind_some]
    by_cases h' : Col r g b a
    · rw [decide_eq_true h', Bool.not_true, affine_Color.j0, if_neg (by simp), if_pos ⟨h, h'⟩]
      obtain ⟨⟨p0, p1, p2, p3⟩, q0, q1, q2, q3⟩ := h
      obtain ⟨z0, z1, z2, z3⟩ := h'
      have w0 := cc_w z0 p0 q0
      have w1 := cc_w z1 p1 q1
      have w2 := cc_w z2 p2 q2
      have w3 := cc_w z3 p3 q3
      rw [affine_Color.l0, if_pos (by decide), if_pos rfl, w0.1, w0.2.1, clamp_eq, Option.bind_some]
      rw [affine_Color.l0, if_pos (by decide), if_neg (by decide), if_pos (by decide), w1.1, w1.2.1, clamp_eq, Option.bind_some]
      rw [affine_Color.l0, if_pos (by decide), if_neg (by decide), if_neg (by decide), if_pos (by decide), w2.1, w2.2.1, clamp_eq, Option.bind_some]
      rw [affine_Color.l0, if_pos (by decide), if_neg (by decide), if_neg (by decide), if_neg (by decide), if_pos (by decide), w3.1, w3.2.1, clamp_eq, Option.bind_some]
      rw [affine_Color.l0, if_neg (by decide)]; rfl
    · rw [decide_eq_false h', Bool.not_false, no, if_neg (fun hh => h' hh.2)]
  · rw [decide_eq_false h, if_neg (by simp), no, if_neg (fun hh => h hh.1)]
end Go.Proofs.Ytmdfcinjmlagcaa.P
namespace Go.Proofs.Ytmdfcinjmlagcaa.Pure
open Go.RowKit Go.Proofs.Ytmdfcinjmlagcaa.P Go.Proofs.YtmdfcinjmlagcaaW.PrintWords Go.Proofs.YtmdfcinjmlagcaaW.PrintLast Go.Proofs.YtmdfcinjmlagcaaW.PrintMore
abbrev Pix := S23
abbrev Bmp := S43
def Rp (x : Pix) : Prop := Fnt x.f0 x.f1 x.f2 x.f3
theorem wu8 {n : Int} (h : (Lit.int .u8 n).wf = true) : 0 ≤ n ∧ n ≤ 255 := by
  simp [Lit.wf, IntKind.min, IntKind.max, IntKind.bits, IntKind.signed] at h; omega
theorem wi8 {n : Int} (h : (Lit.int .i8 n).wf = true) : -128 ≤ n ∧ n ≤ 127 := by
  simp [Lit.wf, IntKind.min, IntKind.max, IntKind.bits, IntKind.signed] at h; omega
theorem pfaint_eq (r g b a : Int) (k : Nat) (hk : 1001 ≤ k) : pixel_Right_1.f k r g b a = some (!(decide (Fnt r g b a))) := by
  unfold pixel_Right_1.f pixel_faint.f
  rw [rgba_eq _ _ _ _ k hk, Option.bind_some]
  by_cases h : Col r g b a
  · rw [decide_eq_true h, if_pos rfl, Option.bind_some]
    have e : (mx (mx r g) b ≤ a) ↔ Fnt r g b a := by
      unfold Fnt mx
      constructor
      · intro z; exact ⟨h, by omega, by omega, by omega⟩
      · rintro ⟨_, z1, z2, z3⟩; omega
    rw [decide_eq_decide.mpr e]
  · rw [decide_eq_false h, if_neg (by simp), Option.bind_some, decide_eq_false (fun hh : Fnt r g b a => h hh.1)]
theorem rdP (l : List Pix) (i : Nat) (h : i < l.length) : rd_T23 l (i : Int) = l[i] := by
  unfold rd_T23
  rw [Int.toNat_natCast, List.getD_eq_getElem?_getD, List.getElem?_eq_getElem h, Option.getD_some]
theorem all_spec (l : List Pix) (hl : l.length ≤ 4096) : ∀ (d i k : Nat), i + d = l.length → d + 1100 ≤ k → ∃ v, api_RGBA_70.l0 k l (l.length : Int) (i : Int) = some v ∧ ((∀ x ∈ l.drop i, Rp x) → v = -1) ∧ (¬ (∀ x ∈ l.drop i, Rp x) → 0 ≤ v) := by
  intro d
  induction d with
  | zero =>
    intro i k h hk
    obtain ⟨k, rfl⟩ : ∃ m, k = m + 1 := ⟨k - 1, by omega⟩
    refine ⟨-1, by rw [api_RGBA_70.l0, if_neg (by omega)], fun _ => rfl, fun hn => absurd (fun x hx => ?_) hn⟩
    rw [List.drop_of_length_le (by omega)] at hx
    cases hx
  | succ d ih =>
    intro i k h hk
    obtain ⟨k, rfl⟩ : ∃ m, k = m + 1 := ⟨k - 1, by omega⟩
    have hi : i < l.length := by omega
    rw [api_RGBA_70.l0, if_pos (by omega), if_pos (by omega), if_pos (by omega), pfaint_eq _ _ _ _ k (by omega), Option.bind_some, rdP l i hi, List.drop_eq_getElem_cons hi]
    by_cases hp : Rp l[i]
    · obtain ⟨v, hv, h1, h2⟩ := ih (i + 1) k (by omega) (by omega)
      have e : decide (Fnt l[i].f0 l[i].f1 l[i].f2 l[i].f3) = true := decide_eq_true hp
      have hw : wrap64 ((i : Int) + 1) = ((i + 1 : Nat) : Int) := by rw [w64_id (by omega) (by omega)]; rfl
      rw [e, if_neg (by simp), hw]
      refine ⟨v, hv, fun z => h1 (fun x hx => z x (List.mem_cons_of_mem _ hx)), fun z => h2 (fun y => z (fun x hx => ?_))⟩
      rcases List.mem_cons.mp hx with rfl | hx
      · exact hp
      · exact y x hx
    · have e : decide (Fnt l[i].f0 l[i].f1 l[i].f2 l[i].f3) = false := decide_eq_false hp
      rw [e, if_pos (by simp)]
      exact ⟨i, rfl, fun z => absurd (z _ List.mem_cons_self) hp, fun _ => by omega⟩
/-- A bitmap that is right. -/
def Rt (id w h : Int) (l : List Pix) : Prop := (0 ≤ id ∧ id < 65536) ∧ (1 ≤ w ∧ w ≤ 64) ∧ (1 ≤ h ∧ h ≤ 64) ∧ (l.length : Int) = w * h ∧ ∀ x ∈ l, Rp x
theorem whb {w h : Int} (hw : 1 ≤ w ∧ w ≤ 64) (hh : 1 ≤ h ∧ h ≤ 64) : 1 ≤ w * h ∧ w * h ≤ 4096 :=
  ⟨by have := Int.mul_le_mul hw.1 hh.1 (by omega) (by omega); omega, by have := Int.mul_le_mul hw.2 hh.2 (by omega) (by omega); omega⟩
theorem right_spec (id w h : Int) (l : List Pix) (k : Nat) (hk : 6000 ≤ k) : ∃ v, pixel_Right.f k id w h l = some v ∧ (v = true → Rt id w h l) ∧ (Rt id w h l → v = true) := by
  have no : ¬ Rt id w h l → ∃ v, (some false : Option Bool) = some v ∧ (v = true → Rt id w h l) ∧ (Rt id w h l → v = true) := fun hn => ⟨false, rfl, (fun z => by cases z), fun z => absurd z hn⟩
  unfold pixel_Right.f
  by_cases h1 : id ≥ 0
  · rw [if_pos h1]
    by_cases h2 : id < 65536
    · rw [if_pos h2]
      by_cases h3 : w ≥ 1
      · rw [if_pos h3]
        by_cases h4 : w ≤ 64
        · rw [if_pos h4]
          by_cases h5 : h ≥ 1
          · rw [if_pos h5]
            by_cases h6 : h ≤ 64
            · have hb := whb ⟨h3, h4⟩ ⟨h5, h6⟩
              rw [if_pos h6, w64_id (n := w * h) (by omega) (by omega)]
              by_cases h7 : (l.length : Int) = w * h
              · obtain ⟨v, hv, z1, z2⟩ := all_spec l (by omega) l.length 0 k (by omega) (by omega)
                rw [List.drop_zero] at z1 z2
                have e : api_RGBA_70.f k l = some v := hv
                unfold api_RGBA_41.f
                rw [if_pos h7, e, Option.bind_some, Option.bind_some]
                refine ⟨_, rfl, fun z => ?_, fun z => ?_⟩
                · refine ⟨⟨h1, h2⟩, ⟨h3, h4⟩, ⟨h5, h6⟩, h7, ?_⟩
                  by_cases y : ∀ x ∈ l, Rp x
                  · exact y
                  · have := z2 y
                    rw [decide_eq_true (by omega)] at z
                    cases z
                · rw [z1 z.2.2.2.2]; rfl
              · rw [if_neg h7]; exact no (fun z => h7 z.2.2.2.1)
            · rw [if_neg h6]; exact no (fun z => h6 z.2.2.1.2)
          · rw [if_neg h5]; exact no (fun z => h5 z.2.2.1.1)
        · rw [if_neg h4]; exact no (fun z => h4 z.2.1.2)
      · rw [if_neg h3]; exact no (fun z => h3 z.2.1.1)
    · rw [if_neg h2]; exact no (fun z => h2 z.1.2)
  · rw [if_neg h1]; exact no (fun z => h1 z.1.1)
theorem right_eq {id w h : Int} {l : List Pix} (R : Rt id w h l) (k : Nat) (hk : 6000 ≤ k) : pixel_Right.f k id w h l = some true := by
  obtain ⟨v, e, _, z⟩ := right_spec id w h l k hk
  rw [e, z R]
/-- A pixel, by its number. -/
def pxl (l : List Pix) (n : Int) : Int × Int × Int × Int := ((rd_T23 l n).f0, (rd_T23 l n).f1, (rd_T23 l n).f2, (rd_T23 l n).f3)
theorem ix_bd {w h x y : Int} (hw : 1 ≤ w ∧ w ≤ 64) (hh : 1 ≤ h ∧ h ≤ 64) (hx : 0 ≤ x ∧ x < w) (hy : 0 ≤ y ∧ y < h) : 0 ≤ y * w ∧ y * w + x < w * h ∧ wrap64 (wrap64 (y * w) + x) = y * w + x := by
  have b := whb hw hh
  have h0 : 0 ≤ y * w := Int.mul_nonneg hy.1 (by omega)
  have h1 : y * w ≤ (h - 1) * w := Int.mul_le_mul_of_nonneg_right (by omega) (by omega)
  have h2 : (h - 1) * w = w * h - w := by rw [Int.sub_mul, Int.one_mul, Int.mul_comm h w]
  refine ⟨h0, by omega, ?_⟩
  rw [w64_id (n := y * w) (by omega) (by omega), w64_id (by omega) (by omega)]
theorem pixel_eq {id w h : Int} {l : List Pix} (R : Rt id w h l) {x y : Int} (hx : 0 ≤ x ∧ x < w) (hy : 0 ≤ y ∧ y < h) (k : Nat) (hk : 6000 ≤ k) : pixel_Pixel.f k id w h l x y = some (pxl l (y * w + x)) := by
  obtain ⟨i0, i1, i2⟩ := ix_bd R.2.1 R.2.2.1 hx hy
  have hl := R.2.2.2.1
  unfold pixel_Pixel.f
  rw [right_eq R k hk, Option.bind_some, if_pos rfl, if_neg (by omega), if_neg (by omega), if_neg (by omega), if_neg (by omega), i2, if_pos (by omega), if_pos (by omega)]
  rfl
theorem tile_eq {n m : Int} (hm : 1 ≤ m ∧ m ≤ 64) : paint_tile.f n m = some (n % m) := by
  unfold paint_tile.f
  have h1 := Int.tmod_lt_of_pos n (b := m) (by omega)
  have h2 := Int.lt_tmod_of_pos n (b := m) (by omega)
  have h3 : Int.tmod n m % m = n % m := by
    have e := Int.tmod_add_mul_tdiv n m
    have g : (Int.tmod n m + m * Int.tdiv n m) % m = Int.tmod n m % m := Int.add_mul_emod_self_left _ _ _
    rw [e] at g
    exact g.symm
  rw [if_neg (by omega), if_neg (by omega), w64_id (by omega) (by omega), Int.tmod_eq_emod_of_nonneg (by omega), Int.add_emod_right, h3]
/-- Where in a bitmap a point lies, by the fill's kind. -/
def wh (kd n m : Int) : Int := if kd = 64 then n % m else mn (mx n 0) (m - 1)
theorem wh_bd' {kd n m : Int} (hm : 1 ≤ m ∧ m ≤ 64) : 0 ≤ wh kd n m ∧ wh kd n m < m := by
  unfold wh
  by_cases c : kd = 64
  · rw [if_pos c]; exact ⟨Int.emod_nonneg _ (by omega), Int.emod_lt_of_pos _ (by omega)⟩
  · rw [if_neg c]; unfold mn mx; omega
theorem picture_eq {id w h : Int} {l : List Pix} (R : Rt id w h l) (kd c0 c1 c2 c3 m0 m1 m2 m3 m4 m5 sp : Int) (s : List S80) (x y : Int) (k : Nat) (hk : 6000 ≤ k) :
    paint_picture.f k kd c0 c1 c2 c3 m0 m1 m2 m3 m4 m5 sp s id [(⟨id, w, h, l⟩ : Bmp)] x y = some (pxl l (wh kd y h * w + wh kd x w)) := by
  have hw := R.2.1
  have hh := R.2.2.1
  have f : paint_Find.f k [(⟨id, w, h, l⟩ : Bmp)] id = some (id, w, h, l, true) := by
    obtain ⟨k, rfl⟩ : ∃ m, k = m + 1 := ⟨k - 1, by omega⟩
    unfold paint_Find.f
    rw [paint_Find.l0, if_pos (by simp), if_pos (by omega), if_pos (by simp)]
    exact if_pos rfl
  unfold paint_picture.f
  rw [f, Option.bind_some, if_pos rfl]
  dsimp only
  have b1 := wh_bd' (kd := kd) (n := x) hw
  have b2 := wh_bd' (kd := kd) (n := y) hh
  have p := pixel_eq R b1 b2 k hk
  by_cases c : kd = 64
  · have e1 : wh kd x w = x % w := by unfold wh; rw [if_pos c]
    have e2 : wh kd y h = y % h := by unfold wh; rw [if_pos c]
    rw [e1, e2] at p ⊢
    rw [if_pos c, tile_eq hw, Option.bind_some, tile_eq hh, Option.bind_some, p, Option.bind_some]
  · have e1 : wh kd x w = mn (mx x 0) (w - 1) := by unfold wh; rw [if_neg c]
    have e2 : wh kd y h = mn (mx y 0) (h - 1) := by unfold wh; rw [if_neg c]
    rw [e1, e2] at p ⊢
    rw [if_neg c, w64_id (n := w - 1) (by omega) (by omega), w64_id (n := h - 1) (by omega) (by omega), p, Option.bind_some]
theorem fill_eq {kd id : Int} (hk : kd = 64 ∨ kd = 65) (hi : 0 ≤ id ∧ id < 65536) (k : Nat) (hk2 : 1001 ≤ k) : style_RightFill.f k kd 0 0 0 0 1310720 0 0 1310720 0 0 0 [] id = some true := by
  obtain ⟨k, rfl⟩ : ∃ m, k = m + 1 := ⟨k - 1, by omega⟩
  have e : api_Stop.f (k + 1) [] [] = some true := by
    unfold api_Stop.f
    rw [if_pos rfl, api_Stop.l0, if_neg (by decide)]
  have p : style_picture.f kd = some true := by
    rcases hk with rfl | rfl
    · rfl
    · rfl
  have s : style_SameFill.f (k + 1) kd 0 0 0 0 1310720 0 0 1310720 0 0 0 [] id kd 0 0 0 0 1310720 0 0 1310720 0 0 0 [] id = some true := by
    unfold style_SameFill.f
    rw [if_pos rfl, if_pos (by rfl), if_pos (by rfl), if_pos rfl, if_pos rfl, e]; rfl
  unfold style_RightFill.f
  rw [if_neg (by omega), p, Option.bind_some, if_pos rfl, matrix_eq _ _ _ _ _ _ _ (by omega), Option.bind_some, if_pos (by decide), if_pos (by omega), if_pos (by omega), s]; rfl
theorem co_val : coS 65536 0 0 65536 0 0 1310720 0 0 1310720 0 0 = (1310720, 0, 0, 1310720, 0, 0, 0) := by decide
theorem bk_val (i j : Int) (hi : -10000 ≤ i ∧ i ≤ 10000) (hj : -10000 ≤ j ∧ j ≤ 10000) : bkS 1310720 0 0 1310720 0 0 (64 * i + 32) (64 * j + 32) = (i, j, true) := by
  have hw : Wi (64 * i + 32) (64 * j + 32) 16777216 := by unfold Wi; omega
  have hd : det 1310720 0 0 1310720 = 1717986918400 := by decide
  have hm : Mat 1310720 0 0 1310720 0 0 := by decide
  have b : ∀ p q : Int, bk1 1310720 0 0 0 p q = 1310720 * (p * 20480) := fun p q => by unfold bk1; omega
  unfold bkS
  rw [hd, if_pos ⟨hm, hw, by decide⟩, b, b]
  unfold fl
  rw [if_pos (by omega), if_pos (by omega)]
  have e1 : 1310720 * ((64 * i + 32) * 20480) / 1717986918400 = i := by omega
  have e2 : 1310720 * ((64 * j + 32) * 20480) / 1717986918400 = j := by omega
  rw [e1, e2]
theorem fc {n a : Int} (hn : 0 ≤ n ∧ n ≤ a) (ha : 0 < a ∧ a ≤ 255) : fa (cl n a) a = n := by
  unfold fa cl
  have h1 := Int.ediv_mul_le (n * 255 + a / 2) (b := a) (by omega)
  have h2 := Int.lt_ediv_add_one_mul_self (n * 255 + a / 2) (b := a) (by omega)
  have h3 : (n * 255 + a / 2) / a < 256 := Int.ediv_lt_of_lt_mul (by omega) (by omega)
  rw [Int.add_mul, Int.one_mul] at h2
  generalize (n * 255 + a / 2) / a = q at *
  have e : mn q 255 = q := by unfold mn; omega
  rw [e]
  generalize q * a = P at *
  omega
theorem col_id {r g b a : Int} (h : Col r g b a) : colS 256 256 256 256 0 0 0 0 r g b a = (r, g, b, a) := by
  have e : ∀ n : Int, 0 ≤ n ∧ n ≤ 255 → cc n 256 0 = n := fun n hn => by unfold cc mn mx; omega
  unfold colS
  rw [if_pos ⟨by decide, h⟩]
  unfold Col at h
  rw [e r h.1, e g h.2.1, e b h.2.2.1, e a h.2.2.2]
theorem back_val {r g b a : Int} (h : Fnt r g b a) : faintS (colS 256 256 256 256 0 0 0 0 (clearS r g b a).1 (clearS r g b a).2.1 (clearS r g b a).2.2.1 (clearS r g b a).2.2.2).1 (colS 256 256 256 256 0 0 0 0 (clearS r g b a).1 (clearS r g b a).2.1 (clearS r g b a).2.2.1 (clearS r g b a).2.2.2).2.1 (colS 256 256 256 256 0 0 0 0 (clearS r g b a).1 (clearS r g b a).2.1 (clearS r g b a).2.2.1 (clearS r g b a).2.2.2).2.2.1 (colS 256 256 256 256 0 0 0 0 (clearS r g b a).1 (clearS r g b a).2.1 (clearS r g b a).2.2.1 (clearS r g b a).2.2.2).2.2.2 = (r, g, b, a) := by
  have hc := clearS_col r g b a
  rw [col_id hc]
  obtain ⟨hC, h1, h2, h3⟩ := h
  have hC' := hC
  unfold Col at hC'
  by_cases h0 : a = 0
  · have e : clearS r g b a = (0, 0, 0, 0) := by unfold clearS; rw [if_neg (fun z => z.2 h0)]
    rw [e]
    have er : r = 0 := by omega
    have eg : g = 0 := by omega
    have eb : b = 0 := by omega
    rw [er, eg, eb, h0]
    decide
  · have e : clearS r g b a = (cl r a, cl g a, cl b a, a) := by unfold clearS; rw [if_pos ⟨hC, h0⟩]
    rw [e] at hc ⊢
    unfold faintS
    rw [if_pos hc]
    dsimp only
    rw [fc ⟨hC'.1.1, h1⟩ ⟨by omega, by omega⟩, fc ⟨hC'.2.1.1, h2⟩ ⟨by omega, by omega⟩, fc ⟨hC'.2.2.1.1, h3⟩ ⟨by omega, by omega⟩]
theorem pxl_fnt {l : List Pix} (h : ∀ x ∈ l, Rp x) {n : Int} (h0 : 0 ≤ n) (h1 : n < (l.length : Int)) : Fnt (pxl l n).1 (pxl l n).2.1 (pxl l n).2.2.1 (pxl l n).2.2.2 := by
  obtain ⟨m, rfl⟩ := Int.eq_ofNat_of_zero_le h0
  have hm : m < l.length := by omega
  unfold pxl
  rw [rdP l m hm]
  exact h _ (List.getElem_mem hm)
/-- The colour of a bitmap's fill at a pixel's middle. -/
theorem at_eq {id w h : Int} {l : List Pix} (R : Rt id w h l) {kd : Int} (hk : kd = 64 ∨ kd = 65) {x y : Int} (hx : -10000 ≤ x ∧ x ≤ 10000) (hy : -10000 ≤ y ∧ y ≤ 10000) (k : Nat) (hk2 : 7000 ≤ k) :
    celluloidlaw20_at.f k id w h l kd x y = some (pxl l (wh kd y h * w + wh kd x w)) := by
  have hw := R.2.1
  have hh := R.2.2.1
  have b1 := wh_bd' (kd := kd) (n := x) hw
  have b2 := wh_bd' (kd := kd) (n := y) hh
  obtain ⟨i0, i1, _⟩ := ix_bd hw hh b1 b2
  have hF := pxl_fnt R.2.2.2.2 (n := wh kd y h * w + wh kd x w) (by omega) (by rw [R.2.2.2.1]; exact i1)
  obtain ⟨k, rfl⟩ : ∃ m, k = m + 2 := ⟨k - 2, by omega⟩
  have f : paint_Find.f (k + 1) [(⟨id, w, h, l⟩ : Bmp)] id = some (id, w, h, l, true) := by
    unfold paint_Find.f
    rw [paint_Find.l0, if_pos (by simp), if_pos (by omega), if_pos (by simp)]
    exact if_pos rfl
  have e16 : (kd == 18) = false := beq_eq_false_iff_ne.mpr (by omega)
  have p := picture_eq R kd 0 0 0 0 1310720 0 0 1310720 0 0 0 [] x y k (by omega)
  unfold celluloidlaw20_at.f paint_At.f
  rw [fill_eq hk R.1 (k + 2) (by omega), Option.bind_some, if_pos rfl, if_neg (by omega), compose_eq _ _ _ _ _ _ _ _ _ _ _ _ (k + 2) (by omega), co_val, Option.bind_some, if_pos rfl,
    w64_id (n := 64 * x) (by omega) (by omega), w64_id (n := 64 * y) (by omega) (by omega), w64_id (n := 64 * x + 32) (by omega) (by omega), w64_id (n := 64 * y + 32) (by omega) (by omega),
    back_eq _ _ _ _ _ _ _ _ (k + 2) (by omega), bk_val x y hx hy, Option.bind_some, if_pos rfl, if_neg (by omega), e16, paint_At.j0, if_neg (by simp), f, Option.bind_some, if_pos rfl]
  dsimp only
  rw [right_eq R (k + 1) (by omega), Option.bind_some, paint_At.j1, if_neg (by simp), p, Option.bind_some, clear_eq _ _ _ _ k (by omega), Option.bind_some, color_eq _ _ _ _ _ _ _ _ _ _ _ _ k (by omega), Option.bind_some, faint_eq _ _ _ _ k (by omega), Option.bind_some, Option.bind_some, back_val hF]
theorem emod_in {n m : Int} (h : 0 ≤ n ∧ n < m) : n % m = n := Int.emod_eq_of_lt h.1 h.2
theorem cut_in {n m : Int} (h : 0 ≤ n ∧ n < m) : mn (mx n 0) (m - 1) = n := by unfold mn mx; omega
theorem mul_bd {u w : Int} (hu : -128 ≤ u ∧ u ≤ 127) (hw : 1 ≤ w ∧ w ≤ 64) : -8192 ≤ u * w ∧ u * w ≤ 8192 := by
  have a := Int.mul_le_mul_of_nonneg_right (c := w) (show -128 ≤ u by omega) (by omega)
  have b := Int.mul_le_mul_of_nonneg_right (c := w) (show u ≤ 127 by omega) (by omega)
  omega
theorem j1_eq {id w h : Int} {l : List Pix} (R : Rt id w h l) {u v i j : Int} (hu : -128 ≤ u ∧ u ≤ 127) (hv : -128 ≤ v ∧ v ≤ 127) (hi : 0 ≤ i ∧ i < w) (hj : 0 ≤ j ∧ j < h) (k : Nat) (hk : 8000 ≤ k) :
    celluloidlaw20_PaintTiles.j1 k u v i j false id w h l = some true := by
  obtain ⟨k, rfl⟩ : ∃ m, k = m + 1 := ⟨k - 1, by omega⟩
  have hw := R.2.1
  have hh := R.2.2.1
  have mu := mul_bd hu hw
  have mv := mul_bd hv hh
  have ep : wrap64 (i + wrap64 (wrap64 u * w)) = i + u * w := by rw [w64_id (n := u) (by omega) (by omega), w64_id (n := u * w) (by omega) (by omega), w64_id (by omega) (by omega)]
  have eq : wrap64 (j + wrap64 (wrap64 v * h)) = j + v * h := by rw [w64_id (n := v) (by omega) (by omega), w64_id (n := v * h) (by omega) (by omega), w64_id (by omega) (by omega)]
  have ew : wrap64 (w - 1) = w - 1 := w64_id (by omega) (by omega)
  have eh : wrap64 (h - 1) = h - 1 := w64_id (by omega) (by omega)
  obtain ⟨i0, i1, i2⟩ := ix_bd hw hh hi hj
  have bx : 0 ≤ mn (mx (i + u * w) 0) (w - 1) ∧ mn (mx (i + u * w) 0) (w - 1) < w := by unfold mn mx; omega
  have by_ : 0 ≤ mn (mx (j + v * h) 0) (h - 1) ∧ mn (mx (j + v * h) 0) (h - 1) < h := by unfold mn mx; omega
  obtain ⟨n0, n1, n2⟩ := ix_bd hw hh bx by_
  have hl := R.2.2.2.1
  have a1 := at_eq R (kd := 64) (.inl rfl) (x := i + u * w) (y := j + v * h) (by omega) (by omega) k (by omega)
  have a2 := at_eq R (kd := 65) (.inr rfl) (x := i + u * w) (y := j + v * h) (by omega) (by omega) k (by omega)
  have w1 : wh 64 (i + u * w) w = i := by unfold wh; rw [if_pos rfl, Int.add_mul_emod_self_right, emod_in hi]
  have w2 : wh 64 (j + v * h) h = j := by unfold wh; rw [if_pos rfl, Int.add_mul_emod_self_right, emod_in hj]
  have w3 : wh 65 (i + u * w) w = mn (mx (i + u * w) 0) (w - 1) := by unfold wh; rw [if_neg (by omega)]
  have w4 : wh 65 (j + v * h) h = mn (mx (j + v * h) 0) (h - 1) := by unfold wh; rw [if_neg (by omega)]
  rw [w1, w2] at a1
  rw [w3, w4] at a2
  rw [celluloidlaw20_PaintTiles.j1, if_neg (by simp), ep, eq, ew, eh, n2, i2, if_pos (by omega), if_pos (by omega), a1, Option.bind_some, if_pos (by omega), if_pos (by omega), if_pos (by unfold pxl; simp), a2, Option.bind_some, if_pos (by unfold pxl; simp), awake_eq k (by omega)]
  rfl
theorem PaintTiles : celluloidlaw20_PaintTiles.Pure := by
  intro s x y u v _ hx hy hu hv
  have x8 := wu8 hx
  have y8 := wu8 hy
  have u8 := wi8 hu
  have v8 := wi8 hv
  refine ⟨10000, ?_⟩
  unfold celluloidlaw20_PaintTiles.f
  have off : celluloidlaw20_PaintTiles.j0 10000 x y u v true s.f0 s.f1 s.f2 s.f3 = some true := by
    rw [show (10000 : Nat) = 9999 + 1 from rfl, celluloidlaw20_PaintTiles.j0, if_pos rfl, awake_eq 9999 (by omega)]; rfl
  by_cases c : (s.f3.length : Int) > 500
  · rw [if_pos c]; exact off
  · rw [if_neg c]
    obtain ⟨t, ht, t1, _⟩ := right_spec s.f0 s.f1 s.f2 s.f3 10000 (by omega)
    rw [ht, Option.bind_some]
    cases t with
    | false => exact off
    | true =>
      have R := t1 rfl
      have hw := R.2.1
      have hh := R.2.2.1
      have hl := R.2.2.2.1
      have ex : Int.tmod (wrap64 x) s.f1 = x % s.f1 := by rw [w64_id (by omega) (by omega), Int.tmod_eq_emod_of_nonneg x8.1]
      have ey : Int.tmod (wrap64 y) s.f2 = y % s.f2 := by rw [w64_id (by omega) (by omega), Int.tmod_eq_emod_of_nonneg y8.1]
      have hi : 0 ≤ x % s.f1 ∧ x % s.f1 < s.f1 := ⟨Int.emod_nonneg _ (by omega), Int.emod_lt_of_pos _ (by omega)⟩
      have hj : 0 ≤ y % s.f2 ∧ y % s.f2 < s.f2 := ⟨Int.emod_nonneg _ (by omega), Int.emod_lt_of_pos _ (by omega)⟩
      rw [show (!true) = false from rfl, show (10000 : Nat) = 9999 + 1 from rfl, celluloidlaw20_PaintTiles.j0, if_neg (by simp), if_neg (by omega), if_neg (by omega), ex, ey]
      generalize x % s.f1 = i at *
      generalize y % s.f2 = j at *
      obtain ⟨i0, i1, i2⟩ := ix_bd hw hh hi hj
      have a1 := at_eq R (kd := 64) (.inl rfl) (x := i) (y := j) (by omega) (by omega) 9999 (by omega)
      have a2 := at_eq R (kd := 65) (.inr rfl) (x := i) (y := j) (by omega) (by omega) 9999 (by omega)
      have w1 : wh 64 i s.f1 = i := by unfold wh; rw [if_pos rfl, emod_in hi]
      have w2 : wh 64 j s.f2 = j := by unfold wh; rw [if_pos rfl, emod_in hj]
      have w3 : wh 65 i s.f1 = i := by unfold wh; rw [if_neg (by omega), cut_in hi]
      have w4 : wh 65 j s.f2 = j := by unfold wh; rw [if_neg (by omega), cut_in hj]
      rw [w1, w2] at a1
      rw [w3, w4] at a2
      rw [a1, Option.bind_some, i2, if_pos (by omega), if_pos (by omega), if_neg (by unfold pxl; simp), a2, Option.bind_some]
      have e : (!((pxl s.f3 (j * s.f1 + i)).1 == (rd_T23 s.f3 (j * s.f1 + i)).f0) || (!((pxl s.f3 (j * s.f1 + i)).2.1 == (rd_T23 s.f3 (j * s.f1 + i)).f1) || (!((pxl s.f3 (j * s.f1 + i)).2.2.1 == (rd_T23 s.f3 (j * s.f1 + i)).f2) || (!((pxl s.f3 (j * s.f1 + i)).2.2.2 == (rd_T23 s.f3 (j * s.f1 + i)).f3))))) = false := by unfold pxl; simp
      rw [e]
      exact j1_eq R u8 v8 hi hj 9999 (by omega)
end Go.Proofs.Ytmdfcinjmlagcaa.Pure
