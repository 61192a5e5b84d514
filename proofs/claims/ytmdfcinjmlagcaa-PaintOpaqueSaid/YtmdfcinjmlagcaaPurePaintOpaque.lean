/- An opaque colour stays as it is, made faint and made plain; a faint one, made plain and faint again, is it. -/
import Derived.Test.YtmdfcinjmlagcaaPaintA
import Derived.Test.YtmdfcinjmlagcaaSayPaintOpaque
namespace Go.Proofs.Ytmdfcinjmlagcaa.Pure
open Go.RowKit Go.Proofs.Ytmdfcinjmlagcaa.P Go.Proofs.YtmdfcinjmlagcaaW.PrintWords Go.Proofs.YtmdfcinjmlagcaaW.PrintLast Go.Proofs.YtmdfcinjmlagcaaW.PrintMore

/-- A part that is not above its alpha, made plain, then faint: itself. -/
theorem fa_cl {n a : Int} (hn : 0 ≤ n ∧ n ≤ a) (ha : 0 < a ∧ a ≤ 255) : fa (cl n a) a = n := by
  have e := Int.ediv_mul_add_emod (n * 255 + a / 2) a
  have l1 := Int.emod_nonneg (n * 255 + a / 2) (show a ≠ 0 by omega)
  have l2 := Int.emod_lt_of_pos (n * 255 + a / 2) (show 0 < a by omega)
  have hq : (n * 255 + a / 2) / a ≤ 255 := by
    have : (n * 255 + a / 2) / a < 256 := Int.ediv_lt_of_lt_mul (by omega) (by omega)
    omega
  unfold fa cl mn
  rw [if_neg (by omega)]
  generalize (n * 255 + a / 2) / a * a = p at *
  omega
theorem fa_full {n : Int} : fa n 255 = n := by unfold fa; omega
theorem cl_full {n : Int} (hn : 0 ≤ n ∧ n ≤ 255) : cl n 255 = n := by unfold cl mn; omega
theorem back {r g b a : Int} (h : Fnt r g b a) : faintS (clearS r g b a).1 (clearS r g b a).2.1 (clearS r g b a).2.2.1 (clearS r g b a).2.2.2 = (r, g, b, a) := by
  have hc := clearS_col r g b a
  obtain ⟨h, h1, h2, h3⟩ := h
  have h' := h
  unfold Col at h'
  unfold faintS
  rw [if_pos hc]
  by_cases h0 : a = 0
  · subst h0
    have e1 : r = 0 := by omega
    have e2 : g = 0 := by omega
    have e3 : b = 0 := by omega
    subst e1
    subst e2
    subst e3
    have : clearS 0 0 0 0 = (0, 0, 0, 0) := by unfold clearS; rw [if_neg (fun hh => hh.2 rfl)]
    rw [this]
    rfl
  · have : clearS r g b a = (cl r a, cl g a, cl b a, a) := by unfold clearS; rw [if_pos ⟨h, h0⟩]
    rw [this]
    dsimp only
    rw [fa_cl ⟨h'.1.1, h1⟩ ⟨by omega, by omega⟩, fa_cl ⟨h'.2.1.1, h2⟩ ⟨by omega, by omega⟩, fa_cl ⟨h'.2.2.1.1, h3⟩ ⟨by omega, by omega⟩]

theorem PaintOpaque : celluloidlaw20_PaintOpaque.Pure := by
  intro x _
  refine ⟨2000, ?_⟩
  unfold celluloidlaw20_PaintOpaque.f
  generalize x.f0 = r
  generalize x.f1 = g
  generalize x.f2 = b
  generalize x.f3 = a
  have last : celluloidlaw20_PaintOpaque.j0 2000 false r g b a = some true := by
    rw [celluloidlaw20_PaintOpaque.j0, if_neg (by simp), fnt_eq _ _ _ _ 1999 (by omega), Option.bind_some]
    by_cases h : Fnt r g b a
    · rw [decide_eq_true h, if_pos rfl, clear_eq _ _ _ _ 1999 (by omega), Option.bind_some, faint_eq _ _ _ _ 1999 (by omega), Option.bind_some, back h, if_pos (by simp), awake_eq 1999 (by omega)]; rfl
    · rw [decide_eq_false h, if_neg (by simp), awake_eq 1999 (by omega)]; rfl
  rw [rgba07_eq _ _ _ _ 2000 (by omega), Option.bind_some]
  by_cases h : Col r g b a
  · rw [decide_eq_true h, if_pos rfl]
    by_cases h5 : a = 255
    · have h' := h
      unfold Col at h'
      have e1 : faintS r g b a = (r, g, b, a) := by unfold faintS; rw [if_pos h, h5, fa_full, fa_full, fa_full]
      have e2 : clearS r g b a = (r, g, b, a) := by unfold clearS; rw [if_pos ⟨h, by omega⟩, h5, cl_full h'.1, cl_full h'.2.1, cl_full h'.2.2.1]
      rw [if_pos h5, faint_eq _ _ _ _ 2000 (by omega), Option.bind_some, e1, if_neg (by simp), clear_eq _ _ _ _ 2000 (by omega), Option.bind_some, e2]
      simp only [beq_self_eq_true, Bool.not_true, Bool.or_false]
      exact last
    · rw [if_neg h5]; exact last
  · rw [decide_eq_false h, if_neg (by simp), awake_eq 2000 (by omega)]; rfl
end Go.Proofs.Ytmdfcinjmlagcaa.Pure
