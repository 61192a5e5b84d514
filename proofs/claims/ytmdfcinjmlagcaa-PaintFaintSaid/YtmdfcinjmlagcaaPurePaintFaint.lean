/- Any colour, made faint, and plain again, is what the document says; one that is not right becomes none. (prune.py) -/
import Derived.Test.YtmdfcinjmlagcaaPx4
import Derived.Test.YtmdfcinjmlagcaaPx41
import Derived.Test.YtmdfcinjmlagcaaSayPaintFaint
namespace Go.Proofs.Ytmdfcinjmlagcaa.P
open Go.RowKit Go.Proofs.YtmdfcinjmlagcaaW.PrintWords Go.Proofs.YtmdfcinjmlagcaaW.PrintLast Go.Proofs.YtmdfcinjmlagcaaW.PrintMore
theorem w64_id {n : Int} (h0 : -9223372036854775808 ≤ n) (h1 : n < 9223372036854775808) : wrap64 n = n := by unfold wrap64; omega
/-- Is a colour right? -/
def Col (r g b a : Int) : Prop := (0 ≤ r ∧ r ≤ 255) ∧ (0 ≤ g ∧ g ≤ 255) ∧ (0 ≤ b ∧ b ≤ 255) ∧ (0 ≤ a ∧ a ≤ 255)
instance (r g b a : Int) : Decidable (Col r g b a) := by unfold Col; infer_instance
theorem rd_cons_drop (l : List Int) (i : Nat) (h : i < l.length) : l.drop i = rd l (i : Int) :: l.drop (i + 1) := by
  rw [List.drop_eq_getElem_cons h]
  simp [rd, List.getD_eq_getElem?_getD, h]
theorem within_l0 (f t : Int) (l : List Int) (hl : l.length ≤ 1000) : ∀ (d i k : Nat), d + i = l.length → d < k → field_within.l0 k f t l (l.length : Int) (i : Int) = some (decide (∀ x ∈ l.drop i, f ≤ x ∧ x ≤ t)) := by
  intro d
  induction d with
  | zero =>
    intro i k h hk
    obtain ⟨k, rfl⟩ : ∃ m, k = m + 1 := ⟨k - 1, by omega⟩
    simp only [field_within.l0]
    rw [if_neg (by omega), List.drop_of_length_le (by omega)]; simp
  | succ d ih =>
    intro i k h hk
    obtain ⟨k, rfl⟩ : ∃ m, k = m + 1 := ⟨k - 1, by omega⟩
    simp only [field_within.l0]
    rw [if_pos (by omega), if_pos (by omega), if_pos (by omega), w64_id (by omega) (by omega), show (i : Int) + 1 = ((i + 1 : Nat) : Int) by omega, rd_cons_drop l i (by omega)]
    by_cases h1 : rd l (i : Int) < f
    · rw [if_pos h1, decide_eq_false]; intro hc; have := hc _ (List.mem_cons_self ..); omega
    · rw [if_neg h1]
      by_cases h2 : rd l (i : Int) > t
      · rw [if_pos h2, decide_eq_false]; intro hc; have := hc _ (List.mem_cons_self ..); omega
      · rw [if_neg h2, ih (i + 1) k (by omega) (by omega)]
        congr 1; rw [decide_eq_decide]
        constructor
        · intro hh x hx
          rcases List.mem_cons.mp hx with rfl | hx
          · omega
          · exact hh x hx
        · intro hh x hx; exact hh x (List.mem_cons_of_mem _ hx)
theorem within_eq (f t : Int) (l : List Int) (hl : l.length ≤ 1000) (k : Nat) (hk : 1001 ≤ k) : field_within.f k f t l = some (decide (∀ x ∈ l, f ≤ x ∧ x ≤ t)) := by
  unfold field_within.f
  exact within_l0 f t l hl l.length 0 k (by omega) (by omega)
theorem rgba_eq (r g b a : Int) (k : Nat) (hk : 1001 ≤ k) : field_RightRGBA.f k r g b a = some (decide (Col r g b a)) := by
  unfold field_RightRGBA.f
  rw [within_eq _ _ _ (by simp) k hk, Option.bind_some]
  congr 1; rw [decide_eq_decide]; unfold Col; simp
theorem rgba07_l0 (l : List Int) (hl : l.length ≤ 1000) : ∀ (d i k : Nat), d + i = l.length → d < k → celluloidref07_RGBA.l0 k l (l.length : Int) (i : Int) = some (decide (∀ x ∈ l.drop i, 0 ≤ x ∧ x ≤ 255)) := by
  intro d
  induction d with
  | zero =>
    intro i k h hk
    obtain ⟨k, rfl⟩ : ∃ m, k = m + 1 := ⟨k - 1, by omega⟩
    simp only [celluloidref07_RGBA.l0]
    rw [if_neg (by omega), List.drop_of_length_le (by omega)]; simp
  | succ d ih =>
    intro i k h hk
    obtain ⟨k, rfl⟩ : ∃ m, k = m + 1 := ⟨k - 1, by omega⟩
    simp only [celluloidref07_RGBA.l0]
    rw [if_pos (by omega), if_pos (by omega), if_pos (by omega), w64_id (by omega) (by omega), show (i : Int) + 1 = ((i + 1 : Nat) : Int) by omega, rd_cons_drop l i (by omega)]
    by_cases h1 : rd l (i : Int) < 0
    · rw [if_pos h1, decide_eq_false]; intro hc; have := hc _ (List.mem_cons_self ..); omega
    · rw [if_neg h1]
      by_cases h2 : rd l (i : Int) > 255
      · rw [if_pos h2, decide_eq_false]; intro hc; have := hc _ (List.mem_cons_self ..); omega
      · rw [if_neg h2, ih (i + 1) k (by omega) (by omega)]
        congr 1; rw [decide_eq_decide]
        constructor
        · intro hh x hx
          rcases List.mem_cons.mp hx with rfl | hx
          · omega
          · exact hh x hx
        · intro hh x hx; exact hh x (List.mem_cons_of_mem _ hx)
theorem rgba07_eq (r g b a : Int) (k : Nat) (hk : 1001 ≤ k) : celluloidref07_RGBA.f k r g b a = some (decide (Col r g b a)) := by
  unfold celluloidref07_RGBA.f
  rw [Option.bind_some]
  refine (rgba07_l0 [r, g, b, a] (by simp) 4 0 k rfl (by omega)).trans ?_
  congr 1; rw [decide_eq_decide]; unfold Col; simp
/-- A part, times the alpha. -/
def fa (n a : Int) : Int := (n * a + 127) / 255
theorem prod_bd {n a : Int} (hn : 0 ≤ n ∧ n ≤ 255) (ha : 0 ≤ a ∧ a ≤ 255) : 0 ≤ n * a ∧ n * a ≤ 255 * a := ⟨Int.mul_nonneg hn.1 ha.1, Int.mul_le_mul_of_nonneg_right hn.2 ha.1⟩
theorem fa_w {n a : Int} (hn : 0 ≤ n ∧ n ≤ 255) (ha : 0 ≤ a ∧ a ≤ 255) : wrap64 (Int.tdiv (wrap64 (wrap64 (n * a) + 127)) 255) = fa n a := by
  have h := prod_bd hn ha
  unfold fa
  rw [w64_id (n := n * a) (by omega) (by omega), w64_id (n := n * a + 127) (by omega) (by omega), Int.tdiv_eq_ediv_of_nonneg (by omega), w64_id (by omega) (by omega)]
def faintS (r g b a : Int) : Int × Int × Int × Int := if Col r g b a then (fa r a, fa g a, fa b a, a) else (0, 0, 0, 0)
theorem faint_eq (r g b a : Int) (k : Nat) (hk : 1001 ≤ k) : paint_Faint.f k r g b a = some (faintS r g b a) := by
  unfold paint_Faint.f faintS
  rw [rgba_eq _ _ _ _ k hk, Option.bind_some]
  by_cases h : Col r g b a
  · have h' := h
    unfold Col at h'
    rw [decide_eq_true h, if_pos rfl, if_pos h, fa_w h'.1 h'.2.2.2, fa_w h'.2.1 h'.2.2.2, fa_w h'.2.2.1 h'.2.2.2]
  · rw [decide_eq_false h, if_neg (by simp), if_neg h]
/-- A part, without the alpha. -/
def cl (n a : Int) : Int := mn ((n * 255 + a / 2) / a) 255
theorem cl_w {n a : Int} (hn : 0 ≤ n ∧ n ≤ 255) (ha : 0 < a ∧ a ≤ 255) : mn (wrap64 (Int.tdiv (wrap64 (wrap64 (n * 255) + wrap64 (Int.tdiv a 2))) a)) 255 = cl n a ∧ 0 ≤ cl n a ∧ cl n a ≤ 255 := by
  have e1 := Int.ediv_le_self a (show 0 ≤ n * 255 + a / 2 by omega)
  have e0 : 0 ≤ (n * 255 + a / 2) / a := Int.ediv_nonneg (by omega) (by omega)
  unfold cl
  rw [w64_id (n := n * 255) (by omega) (by omega), Int.tdiv_eq_ediv_of_nonneg (a := a) (by omega), w64_id (n := a / 2) (by omega) (by omega), w64_id (n := n * 255 + a / 2) (by omega) (by omega), Int.tdiv_eq_ediv_of_nonneg (by omega), w64_id (by omega) (by omega)]
  refine ⟨rfl, ?_⟩
  unfold mn
  omega
def clearS (r g b a : Int) : Int × Int × Int × Int := if Col r g b a ∧ a ≠ 0 then (cl r a, cl g a, cl b a, a) else (0, 0, 0, 0)
theorem clear_eq (r g b a : Int) (k : Nat) (hk : 1001 ≤ k) : paint_Clear.f k r g b a = some (clearS r g b a) := by
  unfold paint_Clear.f clearS
  rw [rgba_eq _ _ _ _ k hk, Option.bind_some]
  by_cases h : Col r g b a
  · rw [decide_eq_true h, if_pos rfl]
    by_cases h0 : a = 0
    · rw [if_pos h0, if_neg (fun hh => hh.2 h0)]
    · have h' := h
      unfold Col at h'
      rw [if_neg h0, if_pos ⟨h, h0⟩, (cl_w h'.1 (a := a) ⟨by omega, by omega⟩).1, (cl_w h'.2.1 (a := a) ⟨by omega, by omega⟩).1, (cl_w h'.2.2.1 (a := a) ⟨by omega, by omega⟩).1]
  · rw [decide_eq_false h, if_neg (by simp), if_neg (fun hh => h hh.1)]
theorem awake_eq (k : Nat) (hk : 1001 ≤ k) : celluloidlaw20_awake.f k = some true := by
  have e1 : faintS 255 100 0 128 = (128, 50, 0, 128) := by unfold faintS; rw [if_pos (by unfold Col; omega)]; rfl
  have e2 : clearS 64 0 0 128 = (128, 0, 0, 128) := by unfold clearS; rw [if_pos ⟨by unfold Col; omega, by omega⟩]; rfl
  unfold celluloidlaw20_awake.f
  rw [faint_eq _ _ _ _ k hk, Option.bind_some, e1, if_pos (by rfl), clear_eq _ _ _ _ k hk, Option.bind_some, e2]
  rfl
end Go.Proofs.Ytmdfcinjmlagcaa.P
namespace Go.Proofs.Ytmdfcinjmlagcaa.Pure
open Go.RowKit Go.Proofs.Ytmdfcinjmlagcaa.P Go.Proofs.YtmdfcinjmlagcaaW.PrintWords Go.Proofs.YtmdfcinjmlagcaaW.PrintLast Go.Proofs.YtmdfcinjmlagcaaW.PrintMore
theorem refFaint {r g b a : Int} (h : Col r g b a) : celluloidref20_Faint.f r g b a = some (faintS r g b a) := by
  have h' := h
  unfold Col at h'
  unfold celluloidref20_Faint.f faintS
  rw [if_pos h, fa_w h'.1 h'.2.2.2, fa_w h'.2.1 h'.2.2.2, fa_w h'.2.2.1 h'.2.2.2]
theorem refclear {n a : Int} (hn : 0 ≤ n ∧ n ≤ 255) (ha : 0 < a ∧ a ≤ 255) : celluloidref20_clear.f n a = some (cl n a) := by
  have e := (cl_w hn ha).1
  unfold celluloidref20_clear.f
  rw [if_neg (by omega), Int.mul_comm 255 n, ← e]
  generalize wrap64 (Int.tdiv (wrap64 (wrap64 (n * 255) + wrap64 (Int.tdiv a 2))) a) = x
  unfold mn
  by_cases h : x > 255
  · rw [if_pos h, if_pos h]
  · rw [if_neg h, if_neg h]
theorem refClear {r g b a : Int} (h : Col r g b a) : celluloidref20_Clear.f r g b a = some (clearS r g b a) := by
  have h' := h
  unfold Col at h'
  unfold celluloidref20_Clear.f clearS
  by_cases h0 : a = 0
  · rw [if_pos h0, if_neg (fun hh => hh.2 h0)]
  · rw [if_neg h0, if_pos ⟨h, h0⟩, refclear h'.1 (a := a) ⟨by omega, by omega⟩, Option.bind_some, refclear h'.2.1 (a := a) ⟨by omega, by omega⟩, Option.bind_some, refclear h'.2.2.1 (a := a) ⟨by omega, by omega⟩, Option.bind_some]
theorem PaintFaint : celluloidlaw20_PaintFaint.Pure := by
  intro x _
  refine ⟨2000, ?_⟩
  unfold celluloidlaw20_PaintFaint.f
  generalize x.f0 = r
  generalize x.f1 = g
  generalize x.f2 = b
  generalize x.f3 = a
  rw [faint_eq _ _ _ _ 2000 (by omega), Option.bind_some, clear_eq _ _ _ _ 2000 (by omega), Option.bind_some, rgba07_eq _ _ _ _ 2000 (by omega), Option.bind_some]
  by_cases h : Col r g b a
  · rw [decide_eq_true h, if_pos rfl, refFaint h, Option.bind_some, if_pos (by simp), refClear h, Option.bind_some, if_pos (by simp), awake_eq 2000 (by omega)]; rfl
  · have e1 : faintS r g b a = (0, 0, 0, 0) := by unfold faintS; rw [if_neg h]
    have e2 : clearS r g b a = (0, 0, 0, 0) := by unfold clearS; rw [if_neg (fun hh => h hh.1)]
    rw [decide_eq_false h, if_neg (by simp), e1, e2, if_pos (by simp), if_pos (by simp), awake_eq 2000 (by omega)]; rfl
end Go.Proofs.Ytmdfcinjmlagcaa.Pure
