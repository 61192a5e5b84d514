/- Printed by printx.py (wip/tool) out of the translation: plain functions that tell what the program answers, and the proofs that the program comes to these answers, for all arguments of their kinds. Lean checks it. -/
import Derived.Test.YtgmegmhioiljcaaPx0
import Derived.Test.YtgmegmhioiljcaaPx2
import Derived.Test.YtgmegmhioiljcaaPx4
namespace Go.Proofs.Ytgmegmhioiljcaa.P
open Go.RowKit Go.Proofs.YtgmegmhioiljcaaW.PrintWords Go.Proofs.YtgmegmhioiljcaaW.PrintLast Go.Proofs.YtgmegmhioiljcaaW.PrintMore
attribute [local go_sem] max2_int min2_int max_two min_two max_three min_three max_four min_four max_five min_five max_six min_six   -- for this text's walks alone
set_option linter.unusedVariables false
set_option linter.unusedSimpArgs false

/-! ### sweep_Owners: function 17 -/
mutual
def sweep_Owners.j0 : Nat → List (S27) → Int → Int → Bool → Option (List Int × Int)
  | 0, _, _, _, _ => none
  | k + 1, x0, x1, x2, x31 => if x31 = true then (some (([] : List Int), 1)) else (if 0 ≤ (wrap64 ((wrap64 ((wrap64 (4 * x1)) * 4)) * x2)) then (if (wrap64 ((wrap64 ((wrap64 (4 * x1)) * 4)) * x2) : Int).toNat ≤ 35184372088832 then (sweep_Owners.l0 k x0 (wrap64 (4 * x1)) (List.replicate (wrap64 ((wrap64 ((wrap64 (4 * x1)) * 4)) * x2) : Int).toNat 0) (wrap64 (4 * x2)) 0) else (none)) else (none))
def sweep_Owners.l0 : Nat → List (S27) → Int → List Int → Int → Int → Option (List Int × Int)
  | 0, _, _, _, _, _ => none
  | k + 1, x0, x8, x9, x40, x41 => if x41 < x40 then (if 0 < x8 then (if 0 ≤ (wrap64 (x41 * x8)) then (if (wrap64 ((wrap64 (x41 + 1)) * x8)) = (wrap64 (x41 * x8)) + x8 then (if (wrap64 ((wrap64 (x41 + 1)) * x8)) ≤ (x9.length : Int) then ((sweep_marks.f k x0 (wrap64 ((wrap64 (16 * x41)) + 7)) x8).bind fun t174 => (sweep_Owners.l1 k x0 x8 x9 x41 t174 (List.replicate 256 0) 0 0 x40 x41 x8 0)) else (none)) else (none)) else (none)) else (none)) else (some (x9, 0))
def sweep_Owners.l1 : Nat → List (S27) → Int → List Int → Int → List (S61) → List Int → Int → Int → Int → Int → Int → Int → Option (List Int × Int)
  | 0, _, _, _, _, _, _, _, _, _, _, _, _ => none
  | k + 1, x0, x8, x9, x10, x12, x13, x14, x15, x40, x41, x59, x60 => if x60 < x59 then (if 0 ≤ x60 then (sweep_Owners.l2 k x0 x8 x9 x10 x12 x13 x14 x15 x60 x40 x41 x59 x60 ((wrap64 (x10 * x8)) + x60)) else (none)) else (sweep_Owners.l0 k x0 x8 x9 x40 (wrap64 (x41 + 1)))
def sweep_Owners.j4 : Nat → List (S27) → Int → List Int → Int → List (S61) → List Int → Int → Int → Int → Int → Int → Int → Int → Option (List Int × Int)
  | 0, _, _, _, _, _, _, _, _, _, _, _, _, _ => none
  | k + 1, x0, x8, x9, x10, x12, x13, x14, x15, x40, x41, x59, x60, x136 => sweep_Owners.l3 k x0 x8 x9 x10 x12 x13 x14 x15 x15 x40 x41 x59 x60 x136
def sweep_Owners.l3 : Nat → List (S27) → Int → List Int → Int → List (S61) → List Int → Int → Int → Int → Int → Int → Int → Int → Int → Option (List Int × Int)
  | 0, _, _, _, _, _, _, _, _, _, _, _, _, _, _ => none
  | k + 1, x0, x8, x9, x10, x12, x13, x14, x15, x17, x40, x41, x59, x60, x136 => if x17 > 0 then (if 0 ≤ x136 then (if x136 < (x9.length : Int) then (sweep_Owners.j6 k x0 x8 x9 x10 x12 x13 x14 x15 x17 x40 x41 x59 x60 ((rd x9 x136) == 0) x136) else (none)) else (none)) else (sweep_Owners.j6 k x0 x8 x9 x10 x12 x13 x14 x15 x17 x40 x41 x59 x60 false x136)
def sweep_Owners.j6 : Nat → List (S27) → Int → List Int → Int → List (S61) → List Int → Int → Int → Int → Int → Int → Int → Int → Bool → Int → Option (List Int × Int)
  | 0, _, _, _, _, _, _, _, _, _, _, _, _, _, _, _ => none
  | k + 1, x0, x8, x9, x10, x12, x13, x14, x15, x17, x40, x41, x59, x60, x117, x136 => if x117 = true then (if 0 ≤ x17 then (if x17 < (x13.length : Int) then (if (rd x13 x17) > 0 then (if 0 ≤ x136 then (if x136 < (x9.length : Int) then (sweep_Owners.l3 k x0 x8 (x9.set (x136 : Int).toNat x17) x10 x12 x13 x14 x15 (wrap64 (x17 - 1)) x40 x41 x59 x60 x136) else (none)) else (none)) else (sweep_Owners.l3 k x0 x8 x9 x10 x12 x13 x14 x15 (wrap64 (x17 - 1)) x40 x41 x59 x60 x136)) else (none)) else (none)) else (sweep_Owners.l1 k x0 x8 x9 x10 x12 x13 x14 x15 x40 x41 x59 (wrap64 (x60 + 1)))
def sweep_Owners.l2 : Nat → List (S27) → Int → List Int → Int → List (S61) → List Int → Int → Int → Int → Int → Int → Int → Int → Int → Option (List Int × Int)
  | 0, _, _, _, _, _, _, _, _, _, _, _, _, _, _ => none
  | k + 1, x0, x8, x9, x10, x12, x13, x14, x15, x16, x40, x41, x59, x60, x136 => if x14 < (x12.length : Int) then (if 0 ≤ x14 then (if ((rd_T61 x12 x14).f0) = x16 then (if 0 ≤ ((rd_T61 x12 x14).f1) then (if ((rd_T61 x12 x14).f1) < (x13.length : Int) then ((some (x13.set (((rd_T61 x12 x14).f1) : Int).toNat (wrap64 ((rd x13 ((rd_T61 x12 x14).f1)) + 1)) : List Int)).bind fun y183 => (if 0 ≤ ((rd_T61 x12 x14).f2) then (if ((rd_T61 x12 x14).f2) < (x13.length : Int) then (sweep_Owners.l2 k x0 x8 x9 x10 x12 (y183.set (((rd_T61 x12 x14).f2) : Int).toNat (wrap64 ((rd y183 ((rd_T61 x12 x14).f2)) - 1))) (wrap64 (x14 + 1)) (mx (mx x15 ((rd_T61 x12 x14).f1)) ((rd_T61 x12 x14).f2)) x16 x40 x41 x59 x60 x136) else (none)) else (none))) else (none)) else (none)) else (sweep_Owners.j4 k x0 x8 x9 x10 x12 x13 x14 x15 x40 x41 x59 x60 x136)) else (none)) else (sweep_Owners.j4 k x0 x8 x9 x10 x12 x13 x14 x15 x40 x41 x59 x60 x136)
end
def sweep_Owners.f (k : Nat) (l0 : List (S27)) (a1 : Int) (a2 : Int) : Option (List Int × Int) := if (mn a1 a2) < 1 then (sweep_Owners.j0 k l0 a1 a2 true) else (if (mx a1 a2) > 256 then (sweep_Owners.j0 k l0 a1 a2 true) else ((sweep_Seg_27.f k l0).bind fun t166 => (sweep_Owners.j0 k l0 a1 a2 t166)))
theorem sweep_Owners.mono_l : ∀ k, (∀ y0 y1 y2 y3, LeO (sweep_Owners.j0 k y0 y1 y2 y3) (sweep_Owners.j0 (k + 1) y0 y1 y2 y3)) ∧ (∀ y0 y1 y2 y3 y4, LeO (sweep_Owners.l0 k y0 y1 y2 y3 y4) (sweep_Owners.l0 (k + 1) y0 y1 y2 y3 y4)) ∧ (∀ y0 y1 y2 y3 y4 y5 y6 y7 y8 y9 y10 y11, LeO (sweep_Owners.l1 k y0 y1 y2 y3 y4 y5 y6 y7 y8 y9 y10 y11) (sweep_Owners.l1 (k + 1) y0 y1 y2 y3 y4 y5 y6 y7 y8 y9 y10 y11)) ∧ (∀ y0 y1 y2 y3 y4 y5 y6 y7 y8 y9 y10 y11 y12, LeO (sweep_Owners.j4 k y0 y1 y2 y3 y4 y5 y6 y7 y8 y9 y10 y11 y12) (sweep_Owners.j4 (k + 1) y0 y1 y2 y3 y4 y5 y6 y7 y8 y9 y10 y11 y12)) ∧ (∀ y0 y1 y2 y3 y4 y5 y6 y7 y8 y9 y10 y11 y12 y13, LeO (sweep_Owners.l3 k y0 y1 y2 y3 y4 y5 y6 y7 y8 y9 y10 y11 y12 y13) (sweep_Owners.l3 (k + 1) y0 y1 y2 y3 y4 y5 y6 y7 y8 y9 y10 y11 y12 y13)) ∧ (∀ y0 y1 y2 y3 y4 y5 y6 y7 y8 y9 y10 y11 y12 y13 y14, LeO (sweep_Owners.j6 k y0 y1 y2 y3 y4 y5 y6 y7 y8 y9 y10 y11 y12 y13 y14) (sweep_Owners.j6 (k + 1) y0 y1 y2 y3 y4 y5 y6 y7 y8 y9 y10 y11 y12 y13 y14)) ∧ (∀ y0 y1 y2 y3 y4 y5 y6 y7 y8 y9 y10 y11 y12 y13, LeO (sweep_Owners.l2 k y0 y1 y2 y3 y4 y5 y6 y7 y8 y9 y10 y11 y12 y13) (sweep_Owners.l2 (k + 1) y0 y1 y2 y3 y4 y5 y6 y7 y8 y9 y10 y11 y12 y13))
  | 0 => ⟨fun _ _ _ _ r h => by simp [sweep_Owners.j0] at h, fun _ _ _ _ _ r h => by simp [sweep_Owners.l0] at h, fun _ _ _ _ _ _ _ _ _ _ _ _ r h => by simp [sweep_Owners.l1] at h, fun _ _ _ _ _ _ _ _ _ _ _ _ _ r h => by simp [sweep_Owners.j4] at h, fun _ _ _ _ _ _ _ _ _ _ _ _ _ _ r h => by simp [sweep_Owners.l3] at h, fun _ _ _ _ _ _ _ _ _ _ _ _ _ _ _ r h => by simp [sweep_Owners.j6] at h, fun _ _ _ _ _ _ _ _ _ _ _ _ _ _ r h => by simp [sweep_Owners.l2] at h⟩
  | k + 1 => by
    obtain ⟨ih0, ih1, ih2, ih3, ih4, ih5, ih6⟩ := sweep_Owners.mono_l k
    refine ⟨?_, ?_, ?_, ?_, ?_, ?_, ?_⟩
    · intro y0 y1 y2 y3
      unfold sweep_Owners.j0
      repeat' first
      | (with_reducible exact ih0 _ _ _ _)
      | (with_reducible exact ih1 _ _ _ _ _)
      | (with_reducible exact ih2 _ _ _ _ _ _ _ _ _ _ _ _)
      | (with_reducible exact ih3 _ _ _ _ _ _ _ _ _ _ _ _ _)
      | (with_reducible exact ih4 _ _ _ _ _ _ _ _ _ _ _ _ _ _)
      | (with_reducible exact ih5 _ _ _ _ _ _ _ _ _ _ _ _ _ _ _)
      | (with_reducible exact ih6 _ _ _ _ _ _ _ _ _ _ _ _ _ _)
      | (with_reducible exact sweep_Seg_27.mono _ _)
      | (with_reducible exact sweep_marks.mono _ _ _ _)
      | (with_reducible exact LeO.refl _)
      | (with_reducible exact LeO.none _)
      | (with_reducible refine LeO.ite ?_ ?_)
      | (with_reducible refine LeO.bind ?_ (fun _ => ?_))
      | exact ih0 _ _ _ _
      | exact ih1 _ _ _ _ _
      | exact ih2 _ _ _ _ _ _ _ _ _ _ _ _
      | exact ih3 _ _ _ _ _ _ _ _ _ _ _ _ _
      | exact ih4 _ _ _ _ _ _ _ _ _ _ _ _ _ _
      | exact ih5 _ _ _ _ _ _ _ _ _ _ _ _ _ _ _
      | exact ih6 _ _ _ _ _ _ _ _ _ _ _ _ _ _
      | exact sweep_Seg_27.mono _ _
      | exact sweep_marks.mono _ _ _ _
      | exact LeO.none _
      | refine LeO.ite ?_ ?_
      | refine LeO.bind ?_ (fun _ => ?_)
    · intro y0 y1 y2 y3 y4
      unfold sweep_Owners.l0
      repeat' first
      | (with_reducible exact ih0 _ _ _ _)
      | (with_reducible exact ih1 _ _ _ _ _)
      | (with_reducible exact ih2 _ _ _ _ _ _ _ _ _ _ _ _)
      | (with_reducible exact ih3 _ _ _ _ _ _ _ _ _ _ _ _ _)
      | (with_reducible exact ih4 _ _ _ _ _ _ _ _ _ _ _ _ _ _)
      | (with_reducible exact ih5 _ _ _ _ _ _ _ _ _ _ _ _ _ _ _)
      | (with_reducible exact ih6 _ _ _ _ _ _ _ _ _ _ _ _ _ _)
      | (with_reducible exact sweep_Seg_27.mono _ _)
      | (with_reducible exact sweep_marks.mono _ _ _ _)
      | (with_reducible exact LeO.refl _)
      | (with_reducible exact LeO.none _)
      | (with_reducible refine LeO.ite ?_ ?_)
      | (with_reducible refine LeO.bind ?_ (fun _ => ?_))
      | exact ih0 _ _ _ _
      | exact ih1 _ _ _ _ _
      | exact ih2 _ _ _ _ _ _ _ _ _ _ _ _
      | exact ih3 _ _ _ _ _ _ _ _ _ _ _ _ _
      | exact ih4 _ _ _ _ _ _ _ _ _ _ _ _ _ _
      | exact ih5 _ _ _ _ _ _ _ _ _ _ _ _ _ _ _
      | exact ih6 _ _ _ _ _ _ _ _ _ _ _ _ _ _
      | exact sweep_Seg_27.mono _ _
      | exact sweep_marks.mono _ _ _ _
      | exact LeO.none _
      | refine LeO.ite ?_ ?_
      | refine LeO.bind ?_ (fun _ => ?_)
    · intro y0 y1 y2 y3 y4 y5 y6 y7 y8 y9 y10 y11
      unfold sweep_Owners.l1
      repeat' first
      | (with_reducible exact ih0 _ _ _ _)
      | (with_reducible exact ih1 _ _ _ _ _)
      | (with_reducible exact ih2 _ _ _ _ _ _ _ _ _ _ _ _)
      | (with_reducible exact ih3 _ _ _ _ _ _ _ _ _ _ _ _ _)
      | (with_reducible exact ih4 _ _ _ _ _ _ _ _ _ _ _ _ _ _)
      | (with_reducible exact ih5 _ _ _ _ _ _ _ _ _ _ _ _ _ _ _)
      | (with_reducible exact ih6 _ _ _ _ _ _ _ _ _ _ _ _ _ _)
      | (with_reducible exact sweep_Seg_27.mono _ _)
      | (with_reducible exact sweep_marks.mono _ _ _ _)
      | (with_reducible exact LeO.refl _)
      | (with_reducible exact LeO.none _)
      | (with_reducible refine LeO.ite ?_ ?_)
      | (with_reducible refine LeO.bind ?_ (fun _ => ?_))
      | exact ih0 _ _ _ _
      | exact ih1 _ _ _ _ _
      | exact ih2 _ _ _ _ _ _ _ _ _ _ _ _
      | exact ih3 _ _ _ _ _ _ _ _ _ _ _ _ _
      | exact ih4 _ _ _ _ _ _ _ _ _ _ _ _ _ _
      | exact ih5 _ _ _ _ _ _ _ _ _ _ _ _ _ _ _
      | exact ih6 _ _ _ _ _ _ _ _ _ _ _ _ _ _
      | exact sweep_Seg_27.mono _ _
      | exact sweep_marks.mono _ _ _ _
      | exact LeO.none _
      | refine LeO.ite ?_ ?_
      | refine LeO.bind ?_ (fun _ => ?_)
    · intro y0 y1 y2 y3 y4 y5 y6 y7 y8 y9 y10 y11 y12
      unfold sweep_Owners.j4
      repeat' first
      | (with_reducible exact ih0 _ _ _ _)
      | (with_reducible exact ih1 _ _ _ _ _)
      | (with_reducible exact ih2 _ _ _ _ _ _ _ _ _ _ _ _)
      | (with_reducible exact ih3 _ _ _ _ _ _ _ _ _ _ _ _ _)
      | (with_reducible exact ih4 _ _ _ _ _ _ _ _ _ _ _ _ _ _)
      | (with_reducible exact ih5 _ _ _ _ _ _ _ _ _ _ _ _ _ _ _)
      | (with_reducible exact ih6 _ _ _ _ _ _ _ _ _ _ _ _ _ _)
      | (with_reducible exact sweep_Seg_27.mono _ _)
      | (with_reducible exact sweep_marks.mono _ _ _ _)
      | (with_reducible exact LeO.refl _)
      | (with_reducible exact LeO.none _)
      | (with_reducible refine LeO.ite ?_ ?_)
      | (with_reducible refine LeO.bind ?_ (fun _ => ?_))
      | exact ih0 _ _ _ _
      | exact ih1 _ _ _ _ _
      | exact ih2 _ _ _ _ _ _ _ _ _ _ _ _
      | exact ih3 _ _ _ _ _ _ _ _ _ _ _ _ _
      | exact ih4 _ _ _ _ _ _ _ _ _ _ _ _ _ _
      | exact ih5 _ _ _ _ _ _ _ _ _ _ _ _ _ _ _
      | exact ih6 _ _ _ _ _ _ _ _ _ _ _ _ _ _
      | exact sweep_Seg_27.mono _ _
      | exact sweep_marks.mono _ _ _ _
      | exact LeO.none _
      | refine LeO.ite ?_ ?_
      | refine LeO.bind ?_ (fun _ => ?_)
    · intro y0 y1 y2 y3 y4 y5 y6 y7 y8 y9 y10 y11 y12 y13
      unfold sweep_Owners.l3
      repeat' first
      | (with_reducible exact ih0 _ _ _ _)
      | (with_reducible exact ih1 _ _ _ _ _)
      | (with_reducible exact ih2 _ _ _ _ _ _ _ _ _ _ _ _)
      | (with_reducible exact ih3 _ _ _ _ _ _ _ _ _ _ _ _ _)
      | (with_reducible exact ih4 _ _ _ _ _ _ _ _ _ _ _ _ _ _)
      | (with_reducible exact ih5 _ _ _ _ _ _ _ _ _ _ _ _ _ _ _)
      | (with_reducible exact ih6 _ _ _ _ _ _ _ _ _ _ _ _ _ _)
      | (with_reducible exact sweep_Seg_27.mono _ _)
      | (with_reducible exact sweep_marks.mono _ _ _ _)
      | (with_reducible exact LeO.refl _)
      | (with_reducible exact LeO.none _)
      | (with_reducible refine LeO.ite ?_ ?_)
      | (with_reducible refine LeO.bind ?_ (fun _ => ?_))
      | exact ih0 _ _ _ _
      | exact ih1 _ _ _ _ _
      | exact ih2 _ _ _ _ _ _ _ _ _ _ _ _
      | exact ih3 _ _ _ _ _ _ _ _ _ _ _ _ _
      | exact ih4 _ _ _ _ _ _ _ _ _ _ _ _ _ _
      | exact ih5 _ _ _ _ _ _ _ _ _ _ _ _ _ _ _
      | exact ih6 _ _ _ _ _ _ _ _ _ _ _ _ _ _
      | exact sweep_Seg_27.mono _ _
      | exact sweep_marks.mono _ _ _ _
      | exact LeO.none _
      | refine LeO.ite ?_ ?_
      | refine LeO.bind ?_ (fun _ => ?_)
    · intro y0 y1 y2 y3 y4 y5 y6 y7 y8 y9 y10 y11 y12 y13 y14
      unfold sweep_Owners.j6
      repeat' first
      | (with_reducible exact ih0 _ _ _ _)
      | (with_reducible exact ih1 _ _ _ _ _)
      | (with_reducible exact ih2 _ _ _ _ _ _ _ _ _ _ _ _)
      | (with_reducible exact ih3 _ _ _ _ _ _ _ _ _ _ _ _ _)
      | (with_reducible exact ih4 _ _ _ _ _ _ _ _ _ _ _ _ _ _)
      | (with_reducible exact ih5 _ _ _ _ _ _ _ _ _ _ _ _ _ _ _)
      | (with_reducible exact ih6 _ _ _ _ _ _ _ _ _ _ _ _ _ _)
      | (with_reducible exact sweep_Seg_27.mono _ _)
      | (with_reducible exact sweep_marks.mono _ _ _ _)
      | (with_reducible exact LeO.refl _)
      | (with_reducible exact LeO.none _)
      | (with_reducible refine LeO.ite ?_ ?_)
      | (with_reducible refine LeO.bind ?_ (fun _ => ?_))
      | exact ih0 _ _ _ _
      | exact ih1 _ _ _ _ _
      | exact ih2 _ _ _ _ _ _ _ _ _ _ _ _
      | exact ih3 _ _ _ _ _ _ _ _ _ _ _ _ _
      | exact ih4 _ _ _ _ _ _ _ _ _ _ _ _ _ _
      | exact ih5 _ _ _ _ _ _ _ _ _ _ _ _ _ _ _
      | exact ih6 _ _ _ _ _ _ _ _ _ _ _ _ _ _
      | exact sweep_Seg_27.mono _ _
      | exact sweep_marks.mono _ _ _ _
      | exact LeO.none _
      | refine LeO.ite ?_ ?_
      | refine LeO.bind ?_ (fun _ => ?_)
    · intro y0 y1 y2 y3 y4 y5 y6 y7 y8 y9 y10 y11 y12 y13
      unfold sweep_Owners.l2
      repeat' first
      | (with_reducible exact ih0 _ _ _ _)
      | (with_reducible exact ih1 _ _ _ _ _)
      | (with_reducible exact ih2 _ _ _ _ _ _ _ _ _ _ _ _)
      | (with_reducible exact ih3 _ _ _ _ _ _ _ _ _ _ _ _ _)
      | (with_reducible exact ih4 _ _ _ _ _ _ _ _ _ _ _ _ _ _)
      | (with_reducible exact ih5 _ _ _ _ _ _ _ _ _ _ _ _ _ _ _)
      | (with_reducible exact ih6 _ _ _ _ _ _ _ _ _ _ _ _ _ _)
      | (with_reducible exact sweep_Seg_27.mono _ _)
      | (with_reducible exact sweep_marks.mono _ _ _ _)
      | (with_reducible exact LeO.refl _)
      | (with_reducible exact LeO.none _)
      | (with_reducible refine LeO.ite ?_ ?_)
      | (with_reducible refine LeO.bind ?_ (fun _ => ?_))
      | exact ih0 _ _ _ _
      | exact ih1 _ _ _ _ _
      | exact ih2 _ _ _ _ _ _ _ _ _ _ _ _
      | exact ih3 _ _ _ _ _ _ _ _ _ _ _ _ _
      | exact ih4 _ _ _ _ _ _ _ _ _ _ _ _ _ _
      | exact ih5 _ _ _ _ _ _ _ _ _ _ _ _ _ _ _
      | exact ih6 _ _ _ _ _ _ _ _ _ _ _ _ _ _
      | exact sweep_Seg_27.mono _ _
      | exact sweep_marks.mono _ _ _ _
      | exact LeO.none _
      | refine LeO.ite ?_ ?_
      | refine LeO.bind ?_ (fun _ => ?_)
theorem sweep_Owners.mono : ∀ a0 a1 a2 k, LeO (sweep_Owners.f k a0 a1 a2) (sweep_Owners.f (k + 1) a0 a1 a2) := by
  intro a0 a1 a2 k
  obtain ⟨ih0, ih1, ih2, ih3, ih4, ih5, ih6⟩ := sweep_Owners.mono_l k
  unfold sweep_Owners.f
  repeat' first
      | (with_reducible exact ih0 _ _ _ _)
      | (with_reducible exact ih1 _ _ _ _ _)
      | (with_reducible exact ih2 _ _ _ _ _ _ _ _ _ _ _ _)
      | (with_reducible exact ih3 _ _ _ _ _ _ _ _ _ _ _ _ _)
      | (with_reducible exact ih4 _ _ _ _ _ _ _ _ _ _ _ _ _ _)
      | (with_reducible exact ih5 _ _ _ _ _ _ _ _ _ _ _ _ _ _ _)
      | (with_reducible exact ih6 _ _ _ _ _ _ _ _ _ _ _ _ _ _)
      | (with_reducible exact sweep_Seg_27.mono _ _)
      | (with_reducible exact sweep_marks.mono _ _ _ _)
      | (with_reducible exact LeO.refl _)
      | (with_reducible exact LeO.none _)
      | (with_reducible refine LeO.ite ?_ ?_)
      | (with_reducible refine LeO.bind ?_ (fun _ => ?_))
      | exact ih0 _ _ _ _
      | exact ih1 _ _ _ _ _
      | exact ih2 _ _ _ _ _ _ _ _ _ _ _ _
      | exact ih3 _ _ _ _ _ _ _ _ _ _ _ _ _
      | exact ih4 _ _ _ _ _ _ _ _ _ _ _ _ _ _
      | exact ih5 _ _ _ _ _ _ _ _ _ _ _ _ _ _ _
      | exact ih6 _ _ _ _ _ _ _ _ _ _ _ _ _ _
      | exact sweep_Seg_27.mono _ _
      | exact sweep_marks.mono _ _ _ _
      | exact LeO.none _
      | refine LeO.ite ?_ ?_
      | refine LeO.bind ?_ (fun _ => ?_)
/-- A variable of 256 whole numbers: a block that is told as a row of the call's own. -/
theorem arr_event {P : Program} {ops : Array Oper} {rest : List Oper} {o : Oper} {a : Act} {Q : Exit → Act → World → Prop} {W : World} (hgd : o.guard = none) {N : Tmp} (hd : o.dst = some N)
    (hrun : (execOp a.eval o).run P W = .ok (.value (.pointer (some ⟨W.heap.size, 0, none⟩))) (W.alloc (.cells ((List.replicate 256 (Value.int .i64 0)).toArray) 59 (0, 0))))
    (h : ∀ g w1, Kd.R (Kd.int .i64) 59 w1 W.heap.size (fun _ => True) (.slice (some ⟨g, 0, none⟩) 256 256) (List.replicate 256 0) → Below W.heap.size W w1 → wpList P ops Q rest (a.put o.dst (.pointer (some ⟨g, 0, none⟩))) w1) : wpList P ops Q (o :: rest) a W := by
  refine box_event hgd hd hrun ?_
  intro g hg w1 hb hB
  have hl : (List.replicate 256 (Value.int .i64 0)).length = 256 := List.length_replicate
  have hl2 : (List.replicate 256 (0 : Int)).length = 256 := List.length_replicate
  generalize hz : List.replicate 256 (Value.int .i64 0) = cs at *
  refine h g w1 ⟨fun _ _ => trivial, cs, ⟨by rw [hl, hl2]; rfl, .inr ⟨g, 256, cs.toArray, by rw [hl2], by omega, hb, by rw [hl2]; exact Nat.le_refl _, by unfold maxLen; omega, by rw [List.size_toArray, hl]; rfl, by rw [hl2]; exact List.take_of_length_le (by rw [hl]; exact Nat.le_refl _)⟩⟩, by rw [hl, hl2]; rfl, fun j p hj => ?_⟩ hB
  have hlt' : j < 256 := by
    have := (List.getElem?_eq_some_iff.mp hj).1
    rw [hl2] at this; exact this
  have hp : p = 0 := List.eq_of_mem_replicate (List.mem_of_getElem? hj)
  subst hp
  show (cs.drop (j * 1)).take 1 = [.int .i64 0]
  rw [← hz, List.drop_replicate, List.take_replicate, show min 1 (256 - j * 1) = 1 by omega]; rfl
set_option maxHeartbeats 8000000 in
set_option maxRecDepth 100000 in
theorem sweep_Owners.calls (k : Nat) (A0 : Option Addr) (c0 : Nat) (l0 : List (S27)) (a1 : Int) (a2 : Int) (r1 : List Int) (r2 : Int) (w : World) (hr0 : Kd.C k27 w A0 l0.length l0) (hc0 : l0.length ≤ c0) (h : sweep_Owners.f k l0 a1 a2 = some (r1, r2)) :
    Calls Try.prog 17 #[.slice A0 l0.length c0, .int .i64 a1, .int .i64 a2] w fun e w' => ∃ v0_ : Value, e = .returned (.tuple #[v0_, .int .i64 r2]) ∧ Kd.R (Kd.int .i64) 3 w' w.heap.size (fun _ => True) v0_ r1 ∧ Below w.heap.size w w' := by
  have HR0 := Aside0.mk hr0
  have HC0 := Aside0.mk hc0
  clear hr0 hc0
  have HB := Aside0.mk (Below.refl w.heap.size w)
  have H : (if (mn a1 a2) < 1 then (sweep_Owners.j0 k l0 a1 a2 true) else (if (mx a1 a2) > 256 then (sweep_Owners.j0 k l0 a1 a2 true) else ((sweep_Seg_27.f k l0).bind fun t166 => (sweep_Owners.j0 k l0 a1 a2 t166)))) = some (r1, r2) := h
  clear h
  have HC4 := Aside0.mk H
  clear H
  go_enter Try.func17, Try.ntmps17
  go_upto_region 1 with (fail)
  repeat (go_quiet (fail); go_upto_region 1 with (fail))
  go_cut [31] (fun v31 wc => ∃ (kq : Nat) (x31_3 : Bool), v31 = .bool x31_3 ∧ Aside0 (sweep_Owners.j0 kq l0 a1 a2 x31_3 = some (r1, r2)) ∧ Aside0 (kq ≤ k) ∧ Aside0 (Below w.heap.size w wc))
  case first =>
    have H := HC4.out
    clear HC4
    obtain ⟨ji5, hji5⟩ : ∃ j_ : Int, (mn a1 a2) = j_ := ⟨_, rfl⟩
    replace H : (if (ji5) < 1 then (sweep_Owners.j0 k l0 a1 a2 true) else (if (mx a1 a2) > 256 then (sweep_Owners.j0 k l0 a1 a2 true) else ((sweep_Seg_27.f k l0).bind fun t166 => (sweep_Owners.j0 k l0 a1 a2 t166)))) = some (r1, r2) := by first | (rw [hji5] at H; exact H) | (simp only [hji5] at H ⊢; exact H)
    have hji5_ : (if a2 < a1 then a2 else a1) = ji5 := hji5
    by_cases c6 : (ji5) < 1
    · rw [if_pos c6] at H
      have c6b0 : decide ((ji5) < 1) = true := decide_eq_true c6
      clear c6
      (first | rw [c6b0] | (simp only [i64_w, i32_w]; rw [c6b0]) | skip)
      have H' := Aside0.mk H
      clear H
      go_wp2
      repeat (go_quiet (fail); try go_wp2)
      go_meet
      case rel => exact ⟨_, (true), (by first | rfl | (simp; done) | (simp [*]; done)), H', ⟨by first | omega | exact Nat.le_refl _⟩, ⟨by repeat (first | (with_reducible first | exact HB.out | apply below_alloc | apply pw_below_drewN | apply below_drew1) | exact HB.out)⟩⟩
    · rw [if_neg c6] at H
      have c6b0 : decide ((ji5) < 1) = false := decide_eq_false c6
      clear c6
      (first | rw [c6b0] | (simp only [i64_w, i32_w]; rw [c6b0]) | skip)
      obtain ⟨ji7, hji7⟩ : ∃ j_ : Int, (mx a1 a2) = j_ := ⟨_, rfl⟩
      replace H : (if (ji7) > 256 then (sweep_Owners.j0 k l0 a1 a2 true) else ((sweep_Seg_27.f k l0).bind fun t166 => (sweep_Owners.j0 k l0 a1 a2 t166))) = some (r1, r2) := by first | (rw [hji7] at H; exact H) | (simp only [hji7] at H ⊢; exact H)
      have hji7_ : (if a1 < a2 then a2 else a1) = ji7 := hji7
      by_cases c8 : (ji7) > 256
      · rw [if_pos c8] at H
        have c8b0 : decide (256 < (ji7)) = true := decide_eq_true c8
        clear c8
        have H' := Aside0.mk H
        clear H
        go_wp2
        repeat (go_quiet (fail); try go_wp2)
        go_meet
        case rel => exact ⟨_, (true), (by first | rfl | (simp; done) | (simp [*]; done)), H', ⟨by first | omega | exact Nat.le_refl _⟩, ⟨by repeat (first | (with_reducible first | exact HB.out | apply below_alloc | apply pw_below_drewN | apply below_drew1) | exact HB.out)⟩⟩
      · rw [if_neg c8] at H
        have c8b0 : decide (256 < (ji7)) = false := decide_eq_false c8
        clear c8
        replace H := Option.bind_eq_some_iff.mp H
        obtain ⟨t166, A90, H⟩ := H
        replace H : (sweep_Owners.j0 k l0 a1 a2 t166) = some (r1, r2) := H
        have A9 := Aside0.mk A90
        clear A90
        have H' := Aside0.mk H
        clear H
        go_wp2_with (first | (go_at_call 27; (with_reducible refine (sweep_Seg_27.calls k _ _ l0  t166 _ ?side1 ?side2 A9.out).mono ?_); (case side1 => repeat (first | exact (Kd.C_below HR0.out HB.out) | (with_reducible refine Kd.C_alloc ?_ _) | (with_reducible refine Kd.C_drewN ?_ _) | (with_reducible refine Kd.C_drew ?_))); (case side2 => exact HC0.out); rintro e w10 ⟨rfl, hb⟩; have n0_ := Aside0.mk (below_step (by repeat (first | (with_reducible first | exact HB.out | apply below_alloc | apply pw_below_drewN | apply below_drew1) | exact HB.out)) hb); clear HB; have HB := n0_; clear n0_; (try clear hb); (try clear hb2); (try clear hk); (try clear hi)))
        repeat (go_quiet (first | (go_at_call 27; (with_reducible refine (sweep_Seg_27.calls k _ _ l0  t166 _ ?side1 ?side2 A9.out).mono ?_); (case side1 => repeat (first | exact (Kd.C_below HR0.out HB.out) | (with_reducible refine Kd.C_alloc ?_ _) | (with_reducible refine Kd.C_drewN ?_ _) | (with_reducible refine Kd.C_drew ?_))); (case side2 => exact HC0.out); rintro e w10 ⟨rfl, hb⟩; have n0_ := Aside0.mk (below_step (by repeat (first | (with_reducible first | exact HB.out | apply below_alloc | apply pw_below_drewN | apply below_drew1) | exact HB.out)) hb); clear HB; have HB := n0_; clear n0_; (try clear hb); (try clear hb2); (try clear hk); (try clear hi))); try go_wp2_with (first | (go_at_call 27; (with_reducible refine (sweep_Seg_27.calls k _ _ l0  t166 _ ?side1 ?side2 A9.out).mono ?_); (case side1 => repeat (first | exact (Kd.C_below HR0.out HB.out) | (with_reducible refine Kd.C_alloc ?_ _) | (with_reducible refine Kd.C_drewN ?_ _) | (with_reducible refine Kd.C_drew ?_))); (case side2 => exact HC0.out); rintro e w10 ⟨rfl, hb⟩; have n0_ := Aside0.mk (below_step (by repeat (first | (with_reducible first | exact HB.out | apply below_alloc | apply pw_below_drewN | apply below_drew1) | exact HB.out)) hb); clear HB; have HB := n0_; clear n0_; (try clear hb); (try clear hb2); (try clear hk); (try clear hi))))
        go_meet
        case rel => exact ⟨_, (t166), (by first | rfl | (simp; done) | (simp [*]; done)), H', ⟨by first | omega | exact Nat.le_refl _⟩, ⟨by repeat (first | (with_reducible first | exact HB.out | apply below_alloc | apply pw_below_drewN | apply below_drew1) | exact HB.out)⟩⟩
  case rest =>
    clear HC4
    try clear c1
    try clear p2
    try clear c6
    try clear c6b0
    try clear c8
    try clear c8b0
    obtain ⟨kq, x31_3, rfl, HA, HJ3, HB⟩ := hcut
    cases kq with
    | zero => exact absurd HA.out (by simp [sweep_Owners.j0])
    | succ kj3 =>
      have H := HA.out
      clear HA
      simp only [sweep_Owners.j0] at H
      by_cases c11 : x31_3 = true
      · subst c11
        have H1 : (some (([] : List Int), 1)) = some (r1, r2) := by rw [if_pos rfl] at H; exact H
        clear H
        have H := H1
        clear H1
        simp only [Option.some.injEq, Prod.mk.injEq] at H
        obtain ⟨rfl, rfl⟩ := H
        go_wp2
        repeat (go_quiet (fail); try go_wp2)
        go_ret2
        exact ⟨_, by first | rfl | (simp [errW_none, errW_some] <;> rfl) | (simp [*, errW_none, errW_some] <;> rfl), by first | exact Kd.R_nil _ _ _ _ _ | exact Kd.N_nil _ _ _ _ _ | exact Kd.V_nil _ _ _ _ _ | exact Kd.Q_nil _ _ _ _ _ | exact Kd.S_nil _ _ _ _ _, by repeat (first | (with_reducible first | exact HB.out | apply below_alloc | apply pw_below_drewN | apply below_drew1) | exact HB.out)⟩
      · replace c11 := Bool.eq_false_iff.mpr c11
        subst c11
        have H1 : (if 0 ≤ (wrap64 ((wrap64 ((wrap64 (4 * a1)) * 4)) * a2)) then (if (wrap64 ((wrap64 ((wrap64 (4 * a1)) * 4)) * a2) : Int).toNat ≤ 35184372088832 then (sweep_Owners.l0 kj3 l0 (wrap64 (4 * a1)) (List.replicate (wrap64 ((wrap64 ((wrap64 (4 * a1)) * 4)) * a2) : Int).toNat 0) (wrap64 (4 * a2)) 0) else (none)) else (none)) = some (r1, r2) := by rw [if_neg (show ¬ (false = true) by decide)] at H; exact H
        clear H
        have H := H1
        clear H1
        obtain ⟨ji12, hji12⟩ : ∃ j_ : Int, (wrap64 ((wrap64 ((wrap64 (4 * a1)) * 4)) * a2)) = j_ := ⟨_, rfl⟩
        replace H : (if 0 ≤ (ji12) then (if (ji12 : Int).toNat ≤ 35184372088832 then (sweep_Owners.l0 kj3 l0 (wrap64 (4 * a1)) (List.replicate (ji12 : Int).toNat 0) (wrap64 (4 * a2)) 0) else (none)) else (none)) = some (r1, r2) := by first | (rw [hji12] at H; exact H) | (simp only [hji12] at H ⊢; exact H)
        have hji12w : (IntKind.i64.wrap ((wrap64 ((wrap64 (4 * a1)) * 4)) * a2)) = ji12 := (i64_w _).trans hji12
        by_cases c13 : 0 ≤ (ji12)
        · rw [if_pos c13] at H
          have c13b0 := eq_true c13
          have c13b1 : decide (0 ≤ (ji12)) = true := decide_eq_true c13
          clear c13
          by_cases c14 : (ji12 : Int).toNat ≤ 35184372088832
          · rw [if_pos c14] at H
            have c14b0 := eq_true c14
            have c14b1 : decide ((ji12 : Int).toNat ≤ 35184372088832) = true := decide_eq_true c14
            clear c14
            obtain ⟨y167, hy167⟩ : ∃ y_ : List Int, y_ = (List.replicate (ji12 : Int).toNat 0) := ⟨_, rfl⟩
            replace H : (sweep_Owners.l0 kj3 l0 (wrap64 (4 * a1)) y167 (wrap64 (4 * a2)) 0) = some (r1, r2) := by first | (rw [hy167]; with_reducible exact H) | (have H2_ := (Option.bind_some _ _).symm.trans H; rw [hy167]; with_reducible exact H2_) | (have H2_ := (Option.bind_some _ _).symm.trans H; with_reducible exact H2_) | with_reducible exact H | (rw [hy167]; exact H) | exact H
            have Ny167 := Aside0.mk hy167
            clear hy167
            have H' := Aside0.mk H
            clear H
            go_wp2_with (first | ((with_reducible refine gate_dst (N := 38) rfl ?_); (try (refine gate_guard (by rfl) ?_; dsimp only)); refine Kd.R_make (Kd.int .i64) _ 3 rfl (N := 38) rfl 37 _ _ rfl ji12 rfl rfl Try.underlying37 (.int .i64 0) 8 info3 rfl (by decide) (by omega) 0 (ok := fun _ => True) (okp := fun _ => True) rfl (fun _ hk => hk) trivial (of_decide_eq_true (by first | (with_reducible assumption) | assumption)) (Nat.le_trans (Nat.mul_le_mul_right _ (of_decide_eq_true (by first | (with_reducible assumption) | assumption) : ji12.toNat ≤ 35184372088832)) (by omega)) (Below.refl _ _) (Nat.le_refl _) ?_; intro v168 w15 ho16 hb hg_ hnew_; clear hg_ hnew_; (first | rw [← Ny167.out] at ho16 | (simp only [Int.reduceToNat] at ho16; rw [← Ny167.out] at ho16)); have n0_ := Aside0.mk (Kd.R_lower ho16 (below_size (by repeat (first | (with_reducible first | exact HB.out | apply below_alloc | apply pw_below_drewN | apply below_drew1) | exact HB.out)))); have n1_ := Aside0.mk (below_step (by repeat (first | (with_reducible first | exact HB.out | apply below_alloc | apply pw_below_drewN | apply below_drew1) | exact HB.out)) hb); clear HB; have HO169 := n0_; have HB := n1_; clear n0_ n1_; clear hb ho16))
            repeat (go_quiet (first | ((with_reducible refine gate_dst (N := 38) rfl ?_); (try (refine gate_guard (by rfl) ?_; dsimp only)); refine Kd.R_make (Kd.int .i64) _ 3 rfl (N := 38) rfl 37 _ _ rfl ji12 rfl rfl Try.underlying37 (.int .i64 0) 8 info3 rfl (by decide) (by omega) 0 (ok := fun _ => True) (okp := fun _ => True) rfl (fun _ hk => hk) trivial (of_decide_eq_true (by first | (with_reducible assumption) | assumption)) (Nat.le_trans (Nat.mul_le_mul_right _ (of_decide_eq_true (by first | (with_reducible assumption) | assumption) : ji12.toNat ≤ 35184372088832)) (by omega)) (Below.refl _ _) (Nat.le_refl _) ?_; intro v168 w15 ho16 hb hg_ hnew_; clear hg_ hnew_; (first | rw [← Ny167.out] at ho16 | (simp only [Int.reduceToNat] at ho16; rw [← Ny167.out] at ho16)); have n0_ := Aside0.mk (Kd.R_lower ho16 (below_size (by repeat (first | (with_reducible first | exact HB.out | apply below_alloc | apply pw_below_drewN | apply below_drew1) | exact HB.out)))); have n1_ := Aside0.mk (below_step (by repeat (first | (with_reducible first | exact HB.out | apply below_alloc | apply pw_below_drewN | apply below_drew1) | exact HB.out)) hb); clear HB; have HO169 := n0_; have HB := n1_; clear n0_ n1_; clear hb ho16)); try go_wp2_with (first | ((with_reducible refine gate_dst (N := 38) rfl ?_); (try (refine gate_guard (by rfl) ?_; dsimp only)); refine Kd.R_make (Kd.int .i64) _ 3 rfl (N := 38) rfl 37 _ _ rfl ji12 rfl rfl Try.underlying37 (.int .i64 0) 8 info3 rfl (by decide) (by omega) 0 (ok := fun _ => True) (okp := fun _ => True) rfl (fun _ hk => hk) trivial (of_decide_eq_true (by first | (with_reducible assumption) | assumption)) (Nat.le_trans (Nat.mul_le_mul_right _ (of_decide_eq_true (by first | (with_reducible assumption) | assumption) : ji12.toNat ≤ 35184372088832)) (by omega)) (Below.refl _ _) (Nat.le_refl _) ?_; intro v168 w15 ho16 hb hg_ hnew_; clear hg_ hnew_; (first | rw [← Ny167.out] at ho16 | (simp only [Int.reduceToNat] at ho16; rw [← Ny167.out] at ho16)); have n0_ := Aside0.mk (Kd.R_lower ho16 (below_size (by repeat (first | (with_reducible first | exact HB.out | apply below_alloc | apply pw_below_drewN | apply below_drew1) | exact HB.out)))); have n1_ := Aside0.mk (below_step (by repeat (first | (with_reducible first | exact HB.out | apply below_alloc | apply pw_below_drewN | apply below_drew1) | exact HB.out)) hb); clear HB; have HO169 := n0_; have HB := n1_; clear n0_ n1_; clear hb ho16)))
            go_loopg [41] kj3 (fun kq v41 w' => ∃ (x9_2 : List Int) (x41_2 : Int), v41 = .int .i64 x41_2 ∧ Aside0 (sweep_Owners.l0 kq l0 (wrap64 (4 * a1)) x9_2 (wrap64 (4 * a2)) x41_2 = some (r1, r2)) ∧ Aside0 (kq ≤ kj3) ∧ Aside0 (Kd.R (Kd.int .i64) 3 w' w.heap.size (fun _ => True) v168 x9_2) ∧ Aside0 (Below w.heap.size w w'))
            case atStart => exact ⟨(y167), (0), (by first | rfl | (simp; done) | (simp [*]; done)), H', ⟨Nat.le_refl _⟩, ⟨by (with_reducible repeat (first | apply Kd.R_alloc | apply Kd.R_drewN | apply Kd.R_drew)); exact HO169.out⟩, ⟨by repeat (first | (with_reducible first | exact HB.out | apply below_alloc | apply pw_below_drewN | apply below_drew1) | exact HB.out)⟩⟩
            case round =>
              clear H'
              try clear c1
              try clear p2
              try clear c6
              try clear c6b0
              try clear p6
              try clear c8
              try clear c8b0
              try clear c11
              try clear c13
              try clear c13b0
              try clear c13b1
              try clear c14
              try clear c14b0
              try clear c14b1
              try clear p2
              obtain ⟨x9_2, x41_2, rfl, HA, HK2, HO_9, HB⟩ := hrel
              cases gk with
              | zero => exact absurd HA.out (by simp [sweep_Owners.l0])
              | succ k2 =>
                have H := HA.out
                clear HA
                simp only [sweep_Owners.l0] at H
                by_cases c17 : x41_2 < (wrap64 (4 * a2))
                · rw [if_pos c17] at H
                  have c17b0 : decide (x41_2 < (wrap64 (4 * a2))) = true := decide_eq_true c17
                  clear c17
                  have hpos : 0 < (wrap64 (4 * a1)) := by
                    by_cases c : 0 < (wrap64 (4 * a1))
                    · exact c
                    · exfalso; rw [if_neg c] at H; exact absurd H (by simp)
                  rw [if_pos hpos] at H
                  obtain ⟨ji18, hji18⟩ : ∃ j_ : Int, (wrap64 (x41_2 * (wrap64 (4 * a1)))) = j_ := ⟨_, rfl⟩
                  rw [hji18] at H
                  have hji18w : (IntKind.i64.wrap (x41_2 * (wrap64 (4 * a1)))) = ji18 := (i64_w _).trans hji18
                  have h19 : 0 ≤ ji18 := by
                    by_cases c : 0 ≤ ji18
                    · exact c
                    · exfalso; rw [if_neg c] at H; exact absurd H (by simp)
                  rw [if_pos h19] at H
                  obtain ⟨jh, hjh⟩ : ∃ j_ : Int, (wrap64 ((wrap64 (x41_2 + 1)) * (wrap64 (4 * a1)))) = j_ := ⟨_, rfl⟩
                  rw [hjh] at H
                  have hjhw : (IntKind.i64.wrap ((wrap64 (x41_2 + 1)) * (wrap64 (4 * a1)))) = jh := (i64_w _).trans hjh
                  have h20 : jh = ji18 + (wrap64 (4 * a1)) := by
                    by_cases c : jh = ji18 + (wrap64 (4 * a1))
                    · exact c
                    · exfalso; rw [if_neg c] at H; exact absurd H (by simp)
                  rw [if_pos h20] at H
                  have h21 : jh ≤ (x9_2.length : Int) := by
                    by_cases c : jh ≤ (x9_2.length : Int)
                    · exact c
                    · exfalso; rw [if_neg c] at H; exact absurd H (by simp)
                  rw [if_pos h21] at H
                  replace H := Option.bind_eq_some_iff.mp H
                  obtain ⟨t174, A220, H⟩ := H
                  have A22 := Aside0.mk A220
                  clear A220
                  obtain ⟨y177, hy177⟩ : ∃ y_ : List Int, y_ = (List.replicate 256 0) := ⟨_, rfl⟩
                  replace H : (sweep_Owners.l1 k2 l0 (wrap64 (4 * a1)) x9_2 x41_2 t174 y177 0 0 (wrap64 (4 * a2)) x41_2 (wrap64 (4 * a1)) 0) = some (r1, r2) := by rw [hy177]; exact H
                  have Ny177 := Aside0.mk hy177
                  clear hy177
                  have H' := Aside0.mk H
                  clear H
                  obtain ⟨gO, co25, eo25, gbO, glO, clO, HGO⟩ := Kd.R_form HO_9.out (by omega)
                  subst eo25
                  have GBO := Aside0.mk gbO
                  clear gbO glO HGO
                  have q24 : (jh : Int) ≤ ((x9_2.length : Int) : Int) := h21
                  obtain ⟨i024, hi024, _, hsz24, _⟩ := info_parts info3
                  have hroom24 : x9_2.length ≤ co25 := (Kd.R_reads' HO_9.out).2.1
                  have hcut24 := cut_mid (P := Try.prog) 37 3 .i64 .i64 Try.underlying37 hi024 1 hsz24 (some ⟨gO, 0, none⟩) x9_2.length co25 ji18 jh h19 (by omega) q24 hroom24
                  have eA24 : (if co25 = (ji18 : Int).toNat then (some ⟨gO, 0, none⟩ : Option Addr) else (some ⟨gO, 0, none⟩ : Option Addr).map (·.add ((ji18 : Int).toNat * 1))) = some ⟨gO, (ji18 : Int).toNat, none⟩ := by
                    rw [if_neg (by omega), Option.map_some, Nat.mul_one, add_plain]
                  rw [eA24] at hcut24
                  clear eA24
                  obtain ⟨n24, hn24⟩ : ∃ n : Nat, n = (jh : Int).toNat - (ji18 : Int).toNat := ⟨_, rfl⟩
                  obtain ⟨c24, hc24⟩ : ∃ c : Nat, c = co25 - (ji18 : Int).toNat := ⟨_, rfl⟩
                  rw [← hn24, ← hc24] at hcut24
                  have KN24 : Aside0 ((n24 : Int) = (wrap64 (4 * a1))) := ⟨by omega⟩
                  have K19 := Aside0.mk h19
                  have K21 : Aside0 (ji18 + (wrap64 (4 * a1)) ≤ (x9_2.length : Int)) := ⟨by omega⟩
                  have K18 := Aside0.mk hji18
                  have p19 := eq_true h19
                  have q25 : (ji18 ≤ jh) = True := eq_true (by omega)
                  have q26 : (jh ≤ (x9_2.length : Int)) = True := eq_true h21
                  have q27 : (0 ≤ jh) = True := eq_true (by omega)
                  clear hn24 hc24 hi024 hsz24 hroom24 clO hpos h19 h20 h21 q24
                  have hal : ∀ W : World, (Instr.alloc 59 true (.tuple #[])).run Try.prog W = .ok (.pointer (some ⟨W.heap.size, 0, none⟩)) (W.alloc (.cells ((List.replicate 256 (Value.int .i64 0)).toArray) 59 (0, 0))) := fun W => by kernel_rfl
                  go_wp2_with (first | (go_at_call 29; (with_reducible refine (sweep_marks.calls k2 _ _ l0 (wrap64 ((wrap64 (16 * x41_2)) + 7)) (wrap64 (4 * a1)) t174 _ ?side1 ?side2 A22.out).mono ?_); (case side1 => repeat (first | exact (Kd.C_below HR0.out HB.out) | (with_reducible refine Kd.C_alloc ?_ _) | (with_reducible refine Kd.C_drewN ?_ _) | (with_reducible refine Kd.C_drew ?_))); (case side2 => exact HC0.out); rintro e w26 ⟨v175, rfl, ho0, hb⟩; have n0_ := Aside0.mk (Kd.R_below (by (with_reducible repeat (first | apply Kd.R_alloc | apply Kd.R_drewN | apply Kd.R_drew)); exact HO_9.out) hb); have n1_ := Aside0.mk (Kd.R_lower ho0 (below_size (by repeat (first | (with_reducible first | exact HB.out | apply below_alloc | apply pw_below_drewN | apply below_drew1) | exact HB.out)))); have n2_ := Aside0.mk (below_step (by repeat (first | (with_reducible first | exact HB.out | apply below_alloc | apply pw_below_drewN | apply below_drew1) | exact HB.out)) hb); clear HO_9; clear HB; have HO_9 := n0_; have HO176 := n1_; have HB := n2_; clear n0_ n1_ n2_; (try clear hb); (try clear hb2); (try clear hk); (try clear hi); (try clear ho0)) | ((with_reducible refine gate_dst (N := 13) rfl ?_); refine arr_event ?hg (N := 13) ?hd ?hr ?_; (case hd => rfl); (case hg => rfl); (case hr => first | (go_simp; done) | (go_simp; rfl)); intro gb178 w27 ho28 hb; rw [← Ny177.out] at ho28; have n0_ := Aside0.mk (Kd.R_elder' (by (with_reducible repeat (first | apply Kd.R_alloc | apply Kd.R_drewN | apply Kd.R_drew)); exact HO_9.out) (Kd.R_base ho28) hb); have n1_ := Aside0.mk (Kd.R_below (by (with_reducible repeat (first | apply Kd.R_alloc | apply Kd.R_drewN | apply Kd.R_drew)); exact HO176.out) hb); have n2_ := Aside0.mk (Kd.R_lower (Kd.R_new' ho28 (Kd.R_lt (by (with_reducible repeat (first | apply Kd.R_alloc | apply Kd.R_drewN | apply Kd.R_drew)); exact HO_9.out))) (below_size (by repeat (first | (with_reducible first | exact HB.out | apply below_alloc | apply pw_below_drewN | apply below_drew1) | exact HB.out)))); have n3_ := Aside0.mk (below_step (by repeat (first | (with_reducible first | exact HB.out | apply below_alloc | apply pw_below_drewN | apply below_drew1) | exact HB.out)) hb); clear HO_9; clear HO176; clear HB; have HO_9 := n0_; have HO176 := n1_; have HO179 := n2_; have HB := n3_; clear n0_ n1_ n2_ n3_; clear hb ho28))
                  repeat (go_quiet (first | (go_at_call 29; (with_reducible refine (sweep_marks.calls k2 _ _ l0 (wrap64 ((wrap64 (16 * x41_2)) + 7)) (wrap64 (4 * a1)) t174 _ ?side1 ?side2 A22.out).mono ?_); (case side1 => repeat (first | exact (Kd.C_below HR0.out HB.out) | (with_reducible refine Kd.C_alloc ?_ _) | (with_reducible refine Kd.C_drewN ?_ _) | (with_reducible refine Kd.C_drew ?_))); (case side2 => exact HC0.out); rintro e w26 ⟨v175, rfl, ho0, hb⟩; have n0_ := Aside0.mk (Kd.R_below (by (with_reducible repeat (first | apply Kd.R_alloc | apply Kd.R_drewN | apply Kd.R_drew)); exact HO_9.out) hb); have n1_ := Aside0.mk (Kd.R_lower ho0 (below_size (by repeat (first | (with_reducible first | exact HB.out | apply below_alloc | apply pw_below_drewN | apply below_drew1) | exact HB.out)))); have n2_ := Aside0.mk (below_step (by repeat (first | (with_reducible first | exact HB.out | apply below_alloc | apply pw_below_drewN | apply below_drew1) | exact HB.out)) hb); clear HO_9; clear HB; have HO_9 := n0_; have HO176 := n1_; have HB := n2_; clear n0_ n1_ n2_; (try clear hb); (try clear hb2); (try clear hk); (try clear hi); (try clear ho0)) | ((with_reducible refine gate_dst (N := 13) rfl ?_); refine arr_event ?hg (N := 13) ?hd ?hr ?_; (case hd => rfl); (case hg => rfl); (case hr => first | (go_simp; done) | (go_simp; rfl)); intro gb178 w27 ho28 hb; rw [← Ny177.out] at ho28; have n0_ := Aside0.mk (Kd.R_elder' (by (with_reducible repeat (first | apply Kd.R_alloc | apply Kd.R_drewN | apply Kd.R_drew)); exact HO_9.out) (Kd.R_base ho28) hb); have n1_ := Aside0.mk (Kd.R_below (by (with_reducible repeat (first | apply Kd.R_alloc | apply Kd.R_drewN | apply Kd.R_drew)); exact HO176.out) hb); have n2_ := Aside0.mk (Kd.R_lower (Kd.R_new' ho28 (Kd.R_lt (by (with_reducible repeat (first | apply Kd.R_alloc | apply Kd.R_drewN | apply Kd.R_drew)); exact HO_9.out))) (below_size (by repeat (first | (with_reducible first | exact HB.out | apply below_alloc | apply pw_below_drewN | apply below_drew1) | exact HB.out)))); have n3_ := Aside0.mk (below_step (by repeat (first | (with_reducible first | exact HB.out | apply below_alloc | apply pw_below_drewN | apply below_drew1) | exact HB.out)) hb); clear HO_9; clear HO176; clear HB; have HO_9 := n0_; have HO176 := n1_; have HO179 := n2_; have HB := n3_; clear n0_ n1_ n2_ n3_; clear hb ho28)); try go_wp2)
                  clear hal hcut24
                  go_loopg [14, 15, 60] k2 (fun kq v14 v15 v60 w' => ∃ (x9_3 : List Int) (x13_3 : List Int) (x14_3 : Int) (x15_3 : Int) (x60_3 : Int), v14 = .int .i64 x14_3 ∧ v15 = .int .i64 x15_3 ∧ v60 = .int .i64 x60_3 ∧ Aside0 (sweep_Owners.l1 kq l0 (wrap64 (4 * a1)) x9_3 x41_2 t174 x13_3 x14_3 x15_3 (wrap64 (4 * a2)) x41_2 (wrap64 (4 * a1)) x60_3 = some (r1, r2)) ∧ Aside0 (kq ≤ k2) ∧ Aside0 (Kd.R (Kd.int .i64) 3 w' w.heap.size (fun k_ => some k_ ≠ ((.slice (some ⟨gb178, 0, none⟩) 256 256) : Value).ownBlock) (.slice (some ⟨gO, 0, none⟩) x9_2.length co25) x9_3) ∧ Aside0 (Kd.R k61 61 w' w.heap.size (fun _ => True) v175 t174) ∧ Aside0 (Kd.R (Kd.int .i64) 59 w' w.heap.size (fun k_ => some k_ ≠ ((.slice (some ⟨gO, 0, none⟩) x9_2.length co25) : Value).ownBlock) (.slice (some ⟨gb178, 0, none⟩) 256 256) x13_3) ∧ Aside0 (Below w.heap.size w w'))
                  case atStart => exact ⟨(x9_2), (y177), (0), (0), (0), (by first | rfl | (simp; done) | (simp [*]; done)), (by first | rfl | (simp; done) | (simp [*]; done)), (by first | rfl | (simp; done) | (simp [*]; done)), H', ⟨Nat.le_refl _⟩, ⟨by (with_reducible repeat (first | apply Kd.R_alloc | apply Kd.R_drewN | apply Kd.R_drew)); exact Kd.R_mono HO_9.out (fun _ hk => hk.2)⟩, ⟨by (with_reducible repeat (first | apply Kd.R_alloc | apply Kd.R_drewN | apply Kd.R_drew)); exact HO176.out⟩, ⟨by (with_reducible repeat (first | apply Kd.R_alloc | apply Kd.R_drewN | apply Kd.R_drew)); exact Kd.R_mono HO179.out (fun _ hk => hk.2)⟩, ⟨by repeat (first | (with_reducible first | exact HB.out | apply below_alloc | apply pw_below_drewN | apply below_drew1) | exact HB.out)⟩⟩
                  case round =>
                    clear H'
                    try clear c1
                    try clear c2
                    try clear p2
                    try clear q2
                    try clear c6
                    try clear c6b0
                    try clear p6
                    try clear c8
                    try clear c8b0
                    try clear c11
                    try clear c13
                    try clear c13b0
                    try clear c13b1
                    try clear c14
                    try clear c14b0
                    try clear c14b1
                    try clear c17
                    try clear c17b0
                    try clear c19
                    try clear c19b0
                    try clear c19b1
                    try clear c20
                    try clear c20b0
                    try clear c20b1
                    try clear c21
                    try clear c21b0
                    try clear c21b1
                    try clear c23
                    try clear c23b0
                    try clear c23b1
                    try clear c24
                    try clear q24
                    try clear p2
                    try clear p6
                    try clear q024
                    try clear q24
                    obtain ⟨x9_3, x13_3, x14_3, x15_3, x60_3, rfl, rfl, rfl, HA, HK3, HO_9, HO_12, HO_13, HB⟩ := hrel
                    have hl9_3 := (Kd.R_reads' HO_9.out).1
                    rw [hl9_3] at HO_9
                    (try simp only [hl9_3])
                    (try simp only [hl9_3] at HO_12)
                    (try simp only [hl9_3] at HO_13)
                    cases gk with
                    | zero => exact absurd HA.out (by simp [sweep_Owners.l1])
                    | succ k3 =>
                      have H := HA.out
                      clear HA
                      simp only [sweep_Owners.l1] at H
                      by_cases c29 : x60_3 < (wrap64 (4 * a1))
                      · rw [if_pos c29] at H
                        have c29z : 0 ≤ x60_3 := by
                          by_cases c : 0 ≤ x60_3
                          · exact c
                          · exfalso; rw [if_neg c] at H; exact absurd H (by simp)
                        rw [if_pos c29z] at H
                        have c29b0 : decide (x60_3 < (wrap64 (4 * a1))) = true := decide_eq_true c29
                        have K29 : Aside0 (0 ≤ x60_3 ∧ x60_3 < (wrap64 (4 * a1))) := ⟨⟨c29z, c29⟩⟩
                        clear c29 c29z
                        have HC30 := Aside0.mk H
                        clear H
                        go_upto_block 4 with (fail)
                        repeat (go_quiet (fail); go_upto_block 4 with (fail))
                        go_cut [14, 15] (fun v14 v15 wc => ∃ (kq : Nat) (x9_29 : List Int) (x13_29 : List Int) (x14_29 : Int) (x15_29 : Int), v14 = .int .i64 x14_29 ∧ v15 = .int .i64 x15_29 ∧ Aside0 (sweep_Owners.j4 kq l0 (wrap64 (4 * a1)) x9_29 x41_2 t174 x13_29 x14_29 x15_29 (wrap64 (4 * a2)) x41_2 (wrap64 (4 * a1)) x60_3 ((wrap64 (x41_2 * (wrap64 (4 * a1)))) + x60_3) = some (r1, r2)) ∧ Aside0 (kq ≤ k3) ∧ Aside0 (Kd.R (Kd.int .i64) 3 wc w.heap.size (fun k_ => some k_ ≠ ((.slice (some ⟨gb178, 0, none⟩) 256 256) : Value).ownBlock) (.slice (some ⟨gO, 0, none⟩) x9_3.length co25) x9_29) ∧ Aside0 (Kd.R k61 61 wc w.heap.size (fun _ => True) v175 t174) ∧ Aside0 (Kd.R (Kd.int .i64) 59 wc w.heap.size (fun k_ => some k_ ≠ ((.slice (some ⟨gO, 0, none⟩) x9_3.length co25) : Value).ownBlock) (.slice (some ⟨gb178, 0, none⟩) 256 256) x13_29) ∧ Aside0 (Below w.heap.size w wc))
                        case first =>
                          have H := HC30.out
                          clear HC30
                          have H' := Aside0.mk H
                          clear H
                          go_wp2
                          repeat (go_quiet (fail); try go_wp2)
                          go_loopg [14, 15] k3 (fun kq v14 v15 w' => ∃ (x9_4 : List Int) (x13_4 : List Int) (x14_4 : Int) (x15_4 : Int), v14 = .int .i64 x14_4 ∧ v15 = .int .i64 x15_4 ∧ Aside0 (sweep_Owners.l2 kq l0 (wrap64 (4 * a1)) x9_4 x41_2 t174 x13_4 x14_4 x15_4 x60_3 (wrap64 (4 * a2)) x41_2 (wrap64 (4 * a1)) x60_3 ((wrap64 (x41_2 * (wrap64 (4 * a1)))) + x60_3) = some (r1, r2)) ∧ Aside0 (kq ≤ k3) ∧ Aside0 (Kd.R (Kd.int .i64) 3 w' w.heap.size (fun k_ => some k_ ≠ ((.slice (some ⟨gb178, 0, none⟩) 256 256) : Value).ownBlock) (.slice (some ⟨gO, 0, none⟩) x9_3.length co25) x9_4) ∧ Aside0 (Kd.R k61 61 w' w.heap.size (fun _ => True) v175 t174) ∧ Aside0 (Kd.R (Kd.int .i64) 59 w' w.heap.size (fun k_ => some k_ ≠ ((.slice (some ⟨gO, 0, none⟩) x9_3.length co25) : Value).ownBlock) (.slice (some ⟨gb178, 0, none⟩) 256 256) x13_4) ∧ Aside0 (Below w.heap.size w w'))
                          case atStart => exact ⟨(x9_3), (x13_3), (x14_3), (x15_3), (by first | rfl | (simp; done) | (simp [*]; done)), (by first | rfl | (simp; done) | (simp [*]; done)), H', ⟨Nat.le_refl _⟩, ⟨by (try simp only [hl9_3]); (with_reducible repeat (first | apply Kd.R_alloc | apply Kd.R_drewN | apply Kd.R_drew)); exact HO_9.out⟩, ⟨by (try simp only [hl9_3]); (with_reducible repeat (first | apply Kd.R_alloc | apply Kd.R_drewN | apply Kd.R_drew)); exact HO_12.out⟩, ⟨by (try simp only [hl9_3]); (with_reducible repeat (first | apply Kd.R_alloc | apply Kd.R_drewN | apply Kd.R_drew)); exact HO_13.out⟩, ⟨by repeat (first | (with_reducible first | exact HB.out | apply below_alloc | apply pw_below_drewN | apply below_drew1) | exact HB.out)⟩⟩
                          case round =>
                            clear H'
                            try clear c1
                            try clear c2
                            try clear p2
                            try clear q2
                            try clear c6
                            try clear c6b0
                            try clear p6
                            try clear c8
                            try clear c8b0
                            try clear c11
                            try clear c13
                            try clear c13b0
                            try clear c13b1
                            try clear c14
                            try clear c14b0
                            try clear c14b1
                            try clear c17
                            try clear c17b0
                            try clear c19
                            try clear c19b0
                            try clear c19b1
                            try clear c20
                            try clear c20b0
                            try clear c20b1
                            try clear c21
                            try clear c21b0
                            try clear c21b1
                            try clear c23
                            try clear c23b0
                            try clear c23b1
                            try clear c24
                            try clear q24
                            try clear c29
                            try clear c29b0
                            try clear p2
                            try clear p6
                            try clear q024
                            try clear q2
                            try clear q24
                            obtain ⟨x9_4, x13_4, x14_4, x15_4, rfl, rfl, HA, HK4, HO_9, HO_12, HO_13, HB⟩ := hrel
                            have hl9_4 := (Kd.R_reads' HO_9.out).1
                            rw [hl9_4] at HO_9
                            (try simp only [hl9_4])
                            (try simp only [hl9_4] at HO_12)
                            (try simp only [hl9_4] at HO_13)
                            cases gk with
                            | zero => exact absurd HA.out (by simp [sweep_Owners.l2])
                            | succ k4 =>
                              have H := HA.out
                              clear HA
                              simp only [sweep_Owners.l2] at H
                              by_cases c31 : x14_4 < (t174.length : Int)
                              · rw [if_pos c31] at H
                                have c31b0 : decide (x14_4 < (t174.length : Int)) = true := decide_eq_true c31
                                clear c31
                                (first | rw [c31b0] | (simp only [i64_w, i32_w]; rw [c31b0]) | skip)
                                by_cases c32 : 0 ≤ x14_4
                                · rw [if_pos c32] at H
                                  have c32b0 : decide (0 ≤ x14_4) = true := decide_eq_true c32
                                  clear c32
                                  by_cases c33 : ((rd_T61 t174 x14_4).f0) = x60_3
                                  · rw [if_pos c33] at H
                                    have c33b0 : (((rd_T61 t174 x14_4).f0) == x60_3) = true := beq_iff_eq.mpr c33
                                    have c33b1 : (((rd_T61 t174 x14_4).f0) != x60_3) = false := bne_eq_false_iff_eq.mpr c33
                                    clear c33
                                    by_cases c34 : 0 ≤ ((rd_T61 t174 x14_4).f1)
                                    · rw [if_pos c34] at H
                                      have c34b0 : decide (0 ≤ ((rd_T61 t174 x14_4).f1)) = true := decide_eq_true c34
                                      clear c34
                                      by_cases c35 : ((rd_T61 t174 x14_4).f1) < (x13_4.length : Int)
                                      · rw [if_pos c35] at H
                                        have hlc35b0 : x13_4.length = 256 := ((Kd.R_reads' HO_13.out).1).symm
                                        have c35b01 : decide (((rd_T61 t174 x14_4).f1) < (256 : Int)) = true := decide_eq_true (by omega)
                                        have c35b02 : decide (((rd_T61 t174 x14_4).f1) < ((256 : Nat) : Int)) = true := decide_eq_true (by omega)
                                        have c35b03 : (((rd_T61 t174 x14_4).f1) < (256 : Int)) = True := eq_true (by omega)
                                        clear hlc35b0
                                        have c35b0 : decide (((rd_T61 t174 x14_4).f1) < (x13_4.length : Int)) = true := decide_eq_true c35
                                        clear c35
                                        obtain ⟨y183, hy183⟩ : ∃ y_ : List Int, y_ = (x13_4.set (((rd_T61 t174 x14_4).f1) : Int).toNat (wrap64 ((rd x13_4 ((rd_T61 t174 x14_4).f1)) + 1))) := ⟨_, rfl⟩
                                        replace H : (if 0 ≤ ((rd_T61 t174 x14_4).f2) then (if ((rd_T61 t174 x14_4).f2) < (x13_4.length : Int) then (sweep_Owners.l2 k4 l0 (wrap64 (4 * a1)) x9_4 x41_2 t174 (y183.set (((rd_T61 t174 x14_4).f2) : Int).toNat (wrap64 ((rd y183 ((rd_T61 t174 x14_4).f2)) - 1))) (wrap64 (x14_4 + 1)) (mx (mx x15_4 ((rd_T61 t174 x14_4).f1)) ((rd_T61 t174 x14_4).f2)) x60_3 (wrap64 (4 * a2)) x41_2 (wrap64 (4 * a1)) x60_3 ((wrap64 (x41_2 * (wrap64 (4 * a1)))) + x60_3)) else (none)) else (none)) = some (r1, r2) := by first | (rw [hy183]; with_reducible exact H) | (have H2_ := (Option.bind_some _ _).symm.trans H; rw [hy183]; with_reducible exact H2_) | (have H2_ := (Option.bind_some _ _).symm.trans H; with_reducible exact H2_) | with_reducible exact H | (rw [hy183]; exact H) | exact H
                                        have Ny183 := Aside0.mk hy183
                                        clear hy183
                                        by_cases c37 : 0 ≤ ((rd_T61 t174 x14_4).f2)
                                        · rw [if_pos c37] at H
                                          have c37b0 : decide (0 ≤ ((rd_T61 t174 x14_4).f2)) = true := decide_eq_true c37
                                          clear c37
                                          by_cases c38 : ((rd_T61 t174 x14_4).f2) < (x13_4.length : Int)
                                          · rw [if_pos c38] at H
                                            have hlc38b0 : x13_4.length = 256 := ((Kd.R_reads' HO_13.out).1).symm
                                            have c38b01 : decide (((rd_T61 t174 x14_4).f2) < (256 : Int)) = true := decide_eq_true (by omega)
                                            have c38b02 : decide (((rd_T61 t174 x14_4).f2) < ((256 : Nat) : Int)) = true := decide_eq_true (by omega)
                                            have c38b03 : (((rd_T61 t174 x14_4).f2) < (256 : Int)) = True := eq_true (by omega)
                                            clear hlc38b0
                                            have c38b0 : decide (((rd_T61 t174 x14_4).f2) < (x13_4.length : Int)) = true := decide_eq_true c38
                                            clear c38
                                            obtain ⟨y186, hy186⟩ : ∃ y_ : List Int, y_ = (y183.set (((rd_T61 t174 x14_4).f2) : Int).toNat (wrap64 ((rd y183 ((rd_T61 t174 x14_4).f2)) - 1))) := ⟨_, rfl⟩
                                            replace H : (sweep_Owners.l2 k4 l0 (wrap64 (4 * a1)) x9_4 x41_2 t174 y186 (wrap64 (x14_4 + 1)) (mx (mx x15_4 ((rd_T61 t174 x14_4).f1)) ((rd_T61 t174 x14_4).f2)) x60_3 (wrap64 (4 * a2)) x41_2 (wrap64 (4 * a1)) x60_3 ((wrap64 (x41_2 * (wrap64 (4 * a1)))) + x60_3)) = some (r1, r2) := by first | (rw [hy186]; with_reducible exact H) | (have H2_ := (Option.bind_some _ _).symm.trans H; rw [hy186]; with_reducible exact H2_) | (have H2_ := (Option.bind_some _ _).symm.trans H; with_reducible exact H2_) | with_reducible exact H | (rw [hy186]; exact H) | exact H
                                            have Ny186 := Aside0.mk hy186
                                            clear hy186
                                            obtain ⟨ji40, hji40⟩ : ∃ j_ : Int, (mx x15_4 ((rd_T61 t174 x14_4).f1)) = j_ := ⟨_, rfl⟩
                                            replace H : (sweep_Owners.l2 k4 l0 (wrap64 (4 * a1)) x9_4 x41_2 t174 y186 (wrap64 (x14_4 + 1)) (mx (ji40) ((rd_T61 t174 x14_4).f2)) x60_3 (wrap64 (4 * a2)) x41_2 (wrap64 (4 * a1)) x60_3 ((wrap64 (x41_2 * (wrap64 (4 * a1)))) + x60_3)) = some (r1, r2) := by first | (rw [hji40] at H; exact H) | (simp only [hji40] at H ⊢; exact H)
                                            have hji40_ : (if x15_4 < ((rd_T61 t174 x14_4).f1) then ((rd_T61 t174 x14_4).f1) else x15_4) = ji40 := hji40
                                            obtain ⟨ji41, hji41⟩ : ∃ j_ : Int, (mx (ji40) ((rd_T61 t174 x14_4).f2)) = j_ := ⟨_, rfl⟩
                                            replace H : (sweep_Owners.l2 k4 l0 (wrap64 (4 * a1)) x9_4 x41_2 t174 y186 (wrap64 (x14_4 + 1)) ji41 x60_3 (wrap64 (4 * a2)) x41_2 (wrap64 (4 * a1)) x60_3 ((wrap64 (x41_2 * (wrap64 (4 * a1)))) + x60_3)) = some (r1, r2) := by first | (rw [hji41] at H; exact H) | (simp only [hji41] at H ⊢; exact H)
                                            have hji41_ : (if (ji40) < ((rd_T61 t174 x14_4).f2) then ((rd_T61 t174 x14_4).f2) else (ji40)) = ji41 := hji41
                                            have H' := Aside0.mk H
                                            clear H
                                            obtain ⟨Ao42, co42, eo42⟩ := Kd.R_slice HO_12.out
                                            subst eo42
                                            have p180 : 0 ≤ (x14_4 : Int) := of_decide_eq_true (by first | (with_reducible assumption) | assumption)
                                            have q180 : x14_4 < (t174.length : Int) := of_decide_eq_true (by first | (with_reducible assumption) | assumption)
                                            obtain ⟨ad180, e180, hx180_0, hx180_1, hx180_2⟩ := at_T61 (Kd.R_reads' HO_12.out).2.2 x14_4 p180 q180
                                            cases e180
                                            replace p180 := eq_true p180
                                            replace q180 := eq_true q180
                                            have p181 : 0 ≤ (x14_4 : Int) := of_decide_eq_true (by first | (with_reducible assumption) | assumption)
                                            have q181 : x14_4 < (t174.length : Int) := of_decide_eq_true (by first | (with_reducible assumption) | assumption)
                                            obtain ⟨ad181, e181, hx181_0, hx181_1, hx181_2⟩ := at_T61 (Kd.R_reads' HO_12.out).2.2 x14_4 p181 q181
                                            obtain rfl : ad180 = ad181 := (by injection e181)
                                            replace p181 := eq_true p181
                                            replace q181 := eq_true q181
                                            have p182 : 0 ≤ (((rd_T61 t174 x14_4).f1) : Int) := of_decide_eq_true (by first | (with_reducible assumption) | assumption)
                                            have q182 : ((rd_T61 t174 x14_4).f1) < (x13_4.length : Int) := of_decide_eq_true (by first | (with_reducible assumption) | assumption)
                                            obtain ⟨ad182, e182, hx182_0⟩ := Kd.at_int (Kd.R_reads' HO_13.out).2.2 ((rd_T61 t174 x14_4).f1) p182 q182
                                            cases e182
                                            replace p182 := eq_true p182
                                            replace q182 := eq_true q182
                                            have p36 : 0 ≤ (((rd_T61 t174 x14_4).f1) : Int) := of_decide_eq_true (by first | (with_reducible assumption) | assumption)
                                            have q36 : (((rd_T61 t174 x14_4).f1) : Int) < ((256 : Nat) : Int) := of_decide_eq_true (by first | (with_reducible assumption) | assumption)
                                            have GB36 : Aside0 (w.heap.size ≤ gb178) := ⟨by obtain ⟨_, inner_, ho_, _⟩ := HO_13.out; exact own_base ho_ gb178 (by simp [Value.ownBlock])⟩
                                            (first | simp only [add_plain] at hx182_0 | skip)
                                            obtain ⟨hx36_0, hf36_0⟩ := Kd.R_celln 0 HO_13.out (((rd_T61 t174 x14_4).f1) : Int) p36 q36
                                            replace p36 := eq_true p36
                                            replace q36 := eq_true q36
                                            have HP44 := Kd.R_putg HO_13.out (((rd_T61 t174 x14_4).f1) : Int) (wrap64 ((rd x13_4 ((rd_T61 t174 x14_4).f1)) + 1))
                                            go_wp2_with (first | ((with_reducible refine gate_store (t := 3) (p := 86) rfl ?_); (try (rw [drewN_self wr]; generalize hq_ : World.drewN wr _ = wr; have n0_ := Aside0.mk (Kd.R_at hq_ HO_9.out); have n1_ := Aside0.mk (Kd.R_at hq_ HO_12.out); have n2_ := Aside0.mk (Kd.R_at hq_ HO_13.out); have n3_ := Aside0.mk (below_at hq_ HB.out); clear hq_ HO_9 HO_12 HO_13 HB; have HO_9 := n0_; have HO_12 := n1_; have HO_13 := n2_; have HB := n3_; clear n0_ n1_ n2_ n3_; (try (have HP44 := Kd.R_putg HO_13.out (((rd_T61 t174 x14_4).f1) : Int) (wrap64 ((rd x13_4 ((rd_T61 t174 x14_4).f1)) + 1)))))); refine store_event (t := 3) (p := 86) (v := ?vo_w45) (w1 := (wr.setCell ⟨gb178, (((rd_T61 t174 x14_4).f1) : Int).toNat, none⟩ (.int .i64 (wrap64 ((rd x13_4 ((rd_T61 t174 x14_4).f1)) + 1))))) ?hg ?ho ?hn ?hr ?_; (case ho => rfl); (case hg => rfl); (case hn => rfl); (case hr => first | (go_simp; done) | (go_simp; rfl)); intro w45 hw; have hg : wr.grownBy w45 (some gb178) := (by rw [hw]; exact HP44.2); have hp_ : Kd.R (Kd.int .i64) 59 w45 w.heap.size (fun k_ => some k_ ≠ (.slice (some ⟨gO, 0, none⟩) x9_4.length co25 : Value).ownBlock) (.slice (some ⟨gb178, 0, none⟩) 256 256) y183 := (by rw [hw, Ny183.out]; exact HP44.1); clear HP44; have n0_ := Aside0.mk (Kd.R_after (v := (.slice (some ⟨gb178, 0, none⟩) 256 256)) (v1 := (.slice (some ⟨gb178, 0, none⟩) 256 256)) (ok := (fun _ => True)) (by (with_reducible repeat (first | apply Kd.R_alloc | apply Kd.R_drewN | apply Kd.R_drew)); exact Kd.R_mono HO_9.out (fun _ hk => ⟨trivial, hk⟩)) hg (.inl rfl)); have n1_ := Aside0.mk (Kd.R_over' (v := (.slice (some ⟨gb178, 0, none⟩) 256 256)) (by (with_reducible repeat (first | apply Kd.R_alloc | apply Kd.R_drewN | apply Kd.R_drew)); exact HO_12.out) (Kd.R_typed HO_13.out) (by decide) hg); have n2_ := Aside0.mk (hp_); have n3_ := Aside0.mk ((by rw [hw]; exact below_set (HB.out) GB36.out : Below w.heap.size w w45)); clear HO_9; clear HO_12; clear HO_13; clear HB; have HO_9 := n0_; have HO_12 := n1_; have HO_13 := n2_; have HB := n3_; clear n0_ n1_ n2_ n3_; clear hg hw hp_; have p184 : 0 ≤ (x14_4 : Int) := of_decide_eq_true (by first | (with_reducible assumption) | assumption); have q184 : x14_4 < (t174.length : Int) := of_decide_eq_true (by first | (with_reducible assumption) | assumption); obtain ⟨ad184, e184, hx184_0, hx184_1, hx184_2⟩ := at_T61 (Kd.R_reads' HO_12.out).2.2 x14_4 p184 q184; obtain rfl : ad180 = ad184 := (by injection e184); replace p184 := eq_true p184; replace q184 := eq_true q184; have p185 : 0 ≤ (((rd_T61 t174 x14_4).f2) : Int) := of_decide_eq_true (by first | (with_reducible assumption) | assumption); have q185 : ((rd_T61 t174 x14_4).f2) < (y183.length : Int) := (by have h_ : (((rd_T61 t174 x14_4).f2) : Int) < ((256 : Nat) : Int) := of_decide_eq_true (by first | (with_reducible assumption) | assumption); first | (have e_ := (Kd.R_reads' HO_13.out).1; omega) | simpa only [Ny183.out, List.length_set] using h_); have ql185 : ((((rd_T61 t174 x14_4).f2) : Int) < ((256 : Nat) : Int)) = True := eq_true (of_decide_eq_true (by first | (with_reducible assumption) | assumption)); obtain ⟨ad185, e185, hx185_0⟩ := Kd.at_int (Kd.R_reads' HO_13.out).2.2 ((rd_T61 t174 x14_4).f2) p185 q185; obtain rfl : (⟨gb178, 0, none⟩ : Addr) = ad185 := (by injection e185); (first | simp only [add_plain] at hx185_0 | simp only [add_at] at hx185_0 | simp only [Addr.add, Nat.zero_add] at hx185_0 | skip); replace p185 := eq_true p185; replace q185 := eq_true q185; have p39 : 0 ≤ (((rd_T61 t174 x14_4).f2) : Int) := of_decide_eq_true (by first | (with_reducible assumption) | assumption); have q39 : (((rd_T61 t174 x14_4).f2) : Int) < ((256 : Nat) : Int) := of_decide_eq_true (by first | (with_reducible assumption) | assumption); obtain ⟨hx39_0, hf39_0⟩ := Kd.R_celln 0 HO_13.out (((rd_T61 t174 x14_4).f2) : Int) p39 q39; replace p39 := eq_true p39; replace q39 := eq_true q39; obtain ⟨hy46_, hz46_⟩ := Kd.R_celln 0 HO_13.out (((rd_T61 t174 x14_4).f2) : Int) (of_decide_eq_true (by first | (with_reducible assumption) | assumption)) (of_decide_eq_true (by first | (with_reducible assumption) | assumption)); have HP46 := Kd.R_putg HO_13.out (((rd_T61 t174 x14_4).f2) : Int) (wrap64 ((rd y183 ((rd_T61 t174 x14_4).f2)) - 1))) | ((with_reducible refine gate_store (t := 3) (p := 95) rfl ?_); (try (rw [drewN_self w45]; generalize hq_ : World.drewN w45 _ = w45; have n0_ := Aside0.mk (Kd.R_at hq_ HO_9.out); have n1_ := Aside0.mk (Kd.R_at hq_ HO_12.out); have n2_ := Aside0.mk (Kd.R_at hq_ HO_13.out); have n3_ := Aside0.mk (below_at hq_ HB.out); clear hq_ HO_9 HO_12 HO_13 HB; have HO_9 := n0_; have HO_12 := n1_; have HO_13 := n2_; have HB := n3_; clear n0_ n1_ n2_ n3_; (try (obtain ⟨hy46_, hz46_⟩ := Kd.R_celln 0 HO_13.out (((rd_T61 t174 x14_4).f2) : Int) (of_decide_eq_true (by first | (with_reducible assumption) | assumption)) (of_decide_eq_true (by first | (with_reducible assumption) | assumption)))); (try (have HP46 := Kd.R_putg HO_13.out (((rd_T61 t174 x14_4).f2) : Int) (wrap64 ((rd y183 ((rd_T61 t174 x14_4).f2)) - 1)))))); refine store_event (t := 3) (p := 95) (v := ?vo_w47) (w1 := (w45.setCell ⟨gb178, (((rd_T61 t174 x14_4).f2) : Int).toNat, none⟩ (.int .i64 (wrap64 ((rd y183 ((rd_T61 t174 x14_4).f2)) - 1))))) ?hg ?ho ?hn ?hr ?_; (case ho => rfl); (case hg => rfl); (case hn => rfl); (case hr => first | (go_simp; done) | (go_simp; rfl)); intro w47 hw; have hg : w45.grownBy w47 (some gb178) := (by rw [hw]; exact HP46.2); have hp_ : Kd.R (Kd.int .i64) 59 w47 w.heap.size (fun k_ => some k_ ≠ (.slice (some ⟨gO, 0, none⟩) x9_4.length co25 : Value).ownBlock) (.slice (some ⟨gb178, 0, none⟩) 256 256) y186 := (by rw [hw, Ny186.out]; exact HP46.1); clear HP46; have n0_ := Aside0.mk (Kd.R_after (v := (.slice (some ⟨gb178, 0, none⟩) 256 256)) (v1 := (.slice (some ⟨gb178, 0, none⟩) 256 256)) (ok := (fun _ => True)) (by (with_reducible repeat (first | apply Kd.R_alloc | apply Kd.R_drewN | apply Kd.R_drew)); exact HO_9.out) hg (.inl rfl)); have n1_ := Aside0.mk (Kd.R_over' (v := (.slice (some ⟨gb178, 0, none⟩) 256 256)) (by (with_reducible repeat (first | apply Kd.R_alloc | apply Kd.R_drewN | apply Kd.R_drew)); exact HO_12.out) (Kd.R_typed HO_13.out) (by decide) hg); have n2_ := Aside0.mk (hp_); have n3_ := Aside0.mk ((by rw [hw]; exact below_set (HB.out) GB36.out : Below w.heap.size w w47)); clear HO_9; clear HO_12; clear HO_13; clear HB; have HO_9 := n0_; have HO_12 := n1_; have HO_13 := n2_; have HB := n3_; clear n0_ n1_ n2_ n3_; clear hg hw hp_; have p187 : 0 ≤ (x14_4 : Int) := of_decide_eq_true (by first | (with_reducible assumption) | assumption); have q187 : x14_4 < (t174.length : Int) := of_decide_eq_true (by first | (with_reducible assumption) | assumption); obtain ⟨ad187, e187, hx187_0, hx187_1, hx187_2⟩ := at_T61 (Kd.R_reads' HO_12.out).2.2 x14_4 p187 q187; obtain rfl : ad180 = ad187 := (by injection e187); replace p187 := eq_true p187; replace q187 := eq_true q187; have p188 : 0 ≤ (x14_4 : Int) := of_decide_eq_true (by first | (with_reducible assumption) | assumption); have q188 : x14_4 < (t174.length : Int) := of_decide_eq_true (by first | (with_reducible assumption) | assumption); obtain ⟨ad188, e188, hx188_0, hx188_1, hx188_2⟩ := at_T61 (Kd.R_reads' HO_12.out).2.2 x14_4 p188 q188; obtain rfl : ad180 = ad188 := (by injection e188); replace p188 := eq_true p188; replace q188 := eq_true q188))
                                            repeat (go_quiet (first | ((with_reducible refine gate_store (t := 3) (p := 86) rfl ?_); (try (rw [drewN_self wr]; generalize hq_ : World.drewN wr _ = wr; have n0_ := Aside0.mk (Kd.R_at hq_ HO_9.out); have n1_ := Aside0.mk (Kd.R_at hq_ HO_12.out); have n2_ := Aside0.mk (Kd.R_at hq_ HO_13.out); have n3_ := Aside0.mk (below_at hq_ HB.out); clear hq_ HO_9 HO_12 HO_13 HB; have HO_9 := n0_; have HO_12 := n1_; have HO_13 := n2_; have HB := n3_; clear n0_ n1_ n2_ n3_; (try (have HP44 := Kd.R_putg HO_13.out (((rd_T61 t174 x14_4).f1) : Int) (wrap64 ((rd x13_4 ((rd_T61 t174 x14_4).f1)) + 1)))))); refine store_event (t := 3) (p := 86) (v := ?vo_w45) (w1 := (wr.setCell ⟨gb178, (((rd_T61 t174 x14_4).f1) : Int).toNat, none⟩ (.int .i64 (wrap64 ((rd x13_4 ((rd_T61 t174 x14_4).f1)) + 1))))) ?hg ?ho ?hn ?hr ?_; (case ho => rfl); (case hg => rfl); (case hn => rfl); (case hr => first | (go_simp; done) | (go_simp; rfl)); intro w45 hw; have hg : wr.grownBy w45 (some gb178) := (by rw [hw]; exact HP44.2); have hp_ : Kd.R (Kd.int .i64) 59 w45 w.heap.size (fun k_ => some k_ ≠ (.slice (some ⟨gO, 0, none⟩) x9_4.length co25 : Value).ownBlock) (.slice (some ⟨gb178, 0, none⟩) 256 256) y183 := (by rw [hw, Ny183.out]; exact HP44.1); clear HP44; have n0_ := Aside0.mk (Kd.R_after (v := (.slice (some ⟨gb178, 0, none⟩) 256 256)) (v1 := (.slice (some ⟨gb178, 0, none⟩) 256 256)) (ok := (fun _ => True)) (by (with_reducible repeat (first | apply Kd.R_alloc | apply Kd.R_drewN | apply Kd.R_drew)); exact Kd.R_mono HO_9.out (fun _ hk => ⟨trivial, hk⟩)) hg (.inl rfl)); have n1_ := Aside0.mk (Kd.R_over' (v := (.slice (some ⟨gb178, 0, none⟩) 256 256)) (by (with_reducible repeat (first | apply Kd.R_alloc | apply Kd.R_drewN | apply Kd.R_drew)); exact HO_12.out) (Kd.R_typed HO_13.out) (by decide) hg); have n2_ := Aside0.mk (hp_); have n3_ := Aside0.mk ((by rw [hw]; exact below_set (HB.out) GB36.out : Below w.heap.size w w45)); clear HO_9; clear HO_12; clear HO_13; clear HB; have HO_9 := n0_; have HO_12 := n1_; have HO_13 := n2_; have HB := n3_; clear n0_ n1_ n2_ n3_; clear hg hw hp_; have p184 : 0 ≤ (x14_4 : Int) := of_decide_eq_true (by first | (with_reducible assumption) | assumption); have q184 : x14_4 < (t174.length : Int) := of_decide_eq_true (by first | (with_reducible assumption) | assumption); obtain ⟨ad184, e184, hx184_0, hx184_1, hx184_2⟩ := at_T61 (Kd.R_reads' HO_12.out).2.2 x14_4 p184 q184; obtain rfl : ad180 = ad184 := (by injection e184); replace p184 := eq_true p184; replace q184 := eq_true q184; have p185 : 0 ≤ (((rd_T61 t174 x14_4).f2) : Int) := of_decide_eq_true (by first | (with_reducible assumption) | assumption); have q185 : ((rd_T61 t174 x14_4).f2) < (y183.length : Int) := (by have h_ : (((rd_T61 t174 x14_4).f2) : Int) < ((256 : Nat) : Int) := of_decide_eq_true (by first | (with_reducible assumption) | assumption); first | (have e_ := (Kd.R_reads' HO_13.out).1; omega) | simpa only [Ny183.out, List.length_set] using h_); have ql185 : ((((rd_T61 t174 x14_4).f2) : Int) < ((256 : Nat) : Int)) = True := eq_true (of_decide_eq_true (by first | (with_reducible assumption) | assumption)); obtain ⟨ad185, e185, hx185_0⟩ := Kd.at_int (Kd.R_reads' HO_13.out).2.2 ((rd_T61 t174 x14_4).f2) p185 q185; obtain rfl : (⟨gb178, 0, none⟩ : Addr) = ad185 := (by injection e185); (first | simp only [add_plain] at hx185_0 | simp only [add_at] at hx185_0 | simp only [Addr.add, Nat.zero_add] at hx185_0 | skip); replace p185 := eq_true p185; replace q185 := eq_true q185; have p39 : 0 ≤ (((rd_T61 t174 x14_4).f2) : Int) := of_decide_eq_true (by first | (with_reducible assumption) | assumption); have q39 : (((rd_T61 t174 x14_4).f2) : Int) < ((256 : Nat) : Int) := of_decide_eq_true (by first | (with_reducible assumption) | assumption); obtain ⟨hx39_0, hf39_0⟩ := Kd.R_celln 0 HO_13.out (((rd_T61 t174 x14_4).f2) : Int) p39 q39; replace p39 := eq_true p39; replace q39 := eq_true q39; obtain ⟨hy46_, hz46_⟩ := Kd.R_celln 0 HO_13.out (((rd_T61 t174 x14_4).f2) : Int) (of_decide_eq_true (by first | (with_reducible assumption) | assumption)) (of_decide_eq_true (by first | (with_reducible assumption) | assumption)); have HP46 := Kd.R_putg HO_13.out (((rd_T61 t174 x14_4).f2) : Int) (wrap64 ((rd y183 ((rd_T61 t174 x14_4).f2)) - 1))) | ((with_reducible refine gate_store (t := 3) (p := 95) rfl ?_); (try (rw [drewN_self w45]; generalize hq_ : World.drewN w45 _ = w45; have n0_ := Aside0.mk (Kd.R_at hq_ HO_9.out); have n1_ := Aside0.mk (Kd.R_at hq_ HO_12.out); have n2_ := Aside0.mk (Kd.R_at hq_ HO_13.out); have n3_ := Aside0.mk (below_at hq_ HB.out); clear hq_ HO_9 HO_12 HO_13 HB; have HO_9 := n0_; have HO_12 := n1_; have HO_13 := n2_; have HB := n3_; clear n0_ n1_ n2_ n3_; (try (obtain ⟨hy46_, hz46_⟩ := Kd.R_celln 0 HO_13.out (((rd_T61 t174 x14_4).f2) : Int) (of_decide_eq_true (by first | (with_reducible assumption) | assumption)) (of_decide_eq_true (by first | (with_reducible assumption) | assumption)))); (try (have HP46 := Kd.R_putg HO_13.out (((rd_T61 t174 x14_4).f2) : Int) (wrap64 ((rd y183 ((rd_T61 t174 x14_4).f2)) - 1)))))); refine store_event (t := 3) (p := 95) (v := ?vo_w47) (w1 := (w45.setCell ⟨gb178, (((rd_T61 t174 x14_4).f2) : Int).toNat, none⟩ (.int .i64 (wrap64 ((rd y183 ((rd_T61 t174 x14_4).f2)) - 1))))) ?hg ?ho ?hn ?hr ?_; (case ho => rfl); (case hg => rfl); (case hn => rfl); (case hr => first | (go_simp; done) | (go_simp; rfl)); intro w47 hw; have hg : w45.grownBy w47 (some gb178) := (by rw [hw]; exact HP46.2); have hp_ : Kd.R (Kd.int .i64) 59 w47 w.heap.size (fun k_ => some k_ ≠ (.slice (some ⟨gO, 0, none⟩) x9_4.length co25 : Value).ownBlock) (.slice (some ⟨gb178, 0, none⟩) 256 256) y186 := (by rw [hw, Ny186.out]; exact HP46.1); clear HP46; have n0_ := Aside0.mk (Kd.R_after (v := (.slice (some ⟨gb178, 0, none⟩) 256 256)) (v1 := (.slice (some ⟨gb178, 0, none⟩) 256 256)) (ok := (fun _ => True)) (by (with_reducible repeat (first | apply Kd.R_alloc | apply Kd.R_drewN | apply Kd.R_drew)); exact HO_9.out) hg (.inl rfl)); have n1_ := Aside0.mk (Kd.R_over' (v := (.slice (some ⟨gb178, 0, none⟩) 256 256)) (by (with_reducible repeat (first | apply Kd.R_alloc | apply Kd.R_drewN | apply Kd.R_drew)); exact HO_12.out) (Kd.R_typed HO_13.out) (by decide) hg); have n2_ := Aside0.mk (hp_); have n3_ := Aside0.mk ((by rw [hw]; exact below_set (HB.out) GB36.out : Below w.heap.size w w47)); clear HO_9; clear HO_12; clear HO_13; clear HB; have HO_9 := n0_; have HO_12 := n1_; have HO_13 := n2_; have HB := n3_; clear n0_ n1_ n2_ n3_; clear hg hw hp_; have p187 : 0 ≤ (x14_4 : Int) := of_decide_eq_true (by first | (with_reducible assumption) | assumption); have q187 : x14_4 < (t174.length : Int) := of_decide_eq_true (by first | (with_reducible assumption) | assumption); obtain ⟨ad187, e187, hx187_0, hx187_1, hx187_2⟩ := at_T61 (Kd.R_reads' HO_12.out).2.2 x14_4 p187 q187; obtain rfl : ad180 = ad187 := (by injection e187); replace p187 := eq_true p187; replace q187 := eq_true q187; have p188 : 0 ≤ (x14_4 : Int) := of_decide_eq_true (by first | (with_reducible assumption) | assumption); have q188 : x14_4 < (t174.length : Int) := of_decide_eq_true (by first | (with_reducible assumption) | assumption); obtain ⟨ad188, e188, hx188_0, hx188_1, hx188_2⟩ := at_T61 (Kd.R_reads' HO_12.out).2.2 x14_4 p188 q188; obtain rfl : ad180 = ad188 := (by injection e188); replace p188 := eq_true p188; replace q188 := eq_true q188)); try go_wp2_with (first | ((with_reducible refine gate_store (t := 3) (p := 86) rfl ?_); (try (rw [drewN_self wr]; generalize hq_ : World.drewN wr _ = wr; have n0_ := Aside0.mk (Kd.R_at hq_ HO_9.out); have n1_ := Aside0.mk (Kd.R_at hq_ HO_12.out); have n2_ := Aside0.mk (Kd.R_at hq_ HO_13.out); have n3_ := Aside0.mk (below_at hq_ HB.out); clear hq_ HO_9 HO_12 HO_13 HB; have HO_9 := n0_; have HO_12 := n1_; have HO_13 := n2_; have HB := n3_; clear n0_ n1_ n2_ n3_; (try (have HP44 := Kd.R_putg HO_13.out (((rd_T61 t174 x14_4).f1) : Int) (wrap64 ((rd x13_4 ((rd_T61 t174 x14_4).f1)) + 1)))))); refine store_event (t := 3) (p := 86) (v := ?vo_w45) (w1 := (wr.setCell ⟨gb178, (((rd_T61 t174 x14_4).f1) : Int).toNat, none⟩ (.int .i64 (wrap64 ((rd x13_4 ((rd_T61 t174 x14_4).f1)) + 1))))) ?hg ?ho ?hn ?hr ?_; (case ho => rfl); (case hg => rfl); (case hn => rfl); (case hr => first | (go_simp; done) | (go_simp; rfl)); intro w45 hw; have hg : wr.grownBy w45 (some gb178) := (by rw [hw]; exact HP44.2); have hp_ : Kd.R (Kd.int .i64) 59 w45 w.heap.size (fun k_ => some k_ ≠ (.slice (some ⟨gO, 0, none⟩) x9_4.length co25 : Value).ownBlock) (.slice (some ⟨gb178, 0, none⟩) 256 256) y183 := (by rw [hw, Ny183.out]; exact HP44.1); clear HP44; have n0_ := Aside0.mk (Kd.R_after (v := (.slice (some ⟨gb178, 0, none⟩) 256 256)) (v1 := (.slice (some ⟨gb178, 0, none⟩) 256 256)) (ok := (fun _ => True)) (by (with_reducible repeat (first | apply Kd.R_alloc | apply Kd.R_drewN | apply Kd.R_drew)); exact Kd.R_mono HO_9.out (fun _ hk => ⟨trivial, hk⟩)) hg (.inl rfl)); have n1_ := Aside0.mk (Kd.R_over' (v := (.slice (some ⟨gb178, 0, none⟩) 256 256)) (by (with_reducible repeat (first | apply Kd.R_alloc | apply Kd.R_drewN | apply Kd.R_drew)); exact HO_12.out) (Kd.R_typed HO_13.out) (by decide) hg); have n2_ := Aside0.mk (hp_); have n3_ := Aside0.mk ((by rw [hw]; exact below_set (HB.out) GB36.out : Below w.heap.size w w45)); clear HO_9; clear HO_12; clear HO_13; clear HB; have HO_9 := n0_; have HO_12 := n1_; have HO_13 := n2_; have HB := n3_; clear n0_ n1_ n2_ n3_; clear hg hw hp_; have p184 : 0 ≤ (x14_4 : Int) := of_decide_eq_true (by first | (with_reducible assumption) | assumption); have q184 : x14_4 < (t174.length : Int) := of_decide_eq_true (by first | (with_reducible assumption) | assumption); obtain ⟨ad184, e184, hx184_0, hx184_1, hx184_2⟩ := at_T61 (Kd.R_reads' HO_12.out).2.2 x14_4 p184 q184; obtain rfl : ad180 = ad184 := (by injection e184); replace p184 := eq_true p184; replace q184 := eq_true q184; have p185 : 0 ≤ (((rd_T61 t174 x14_4).f2) : Int) := of_decide_eq_true (by first | (with_reducible assumption) | assumption); have q185 : ((rd_T61 t174 x14_4).f2) < (y183.length : Int) := (by have h_ : (((rd_T61 t174 x14_4).f2) : Int) < ((256 : Nat) : Int) := of_decide_eq_true (by first | (with_reducible assumption) | assumption); first | (have e_ := (Kd.R_reads' HO_13.out).1; omega) | simpa only [Ny183.out, List.length_set] using h_); have ql185 : ((((rd_T61 t174 x14_4).f2) : Int) < ((256 : Nat) : Int)) = True := eq_true (of_decide_eq_true (by first | (with_reducible assumption) | assumption)); obtain ⟨ad185, e185, hx185_0⟩ := Kd.at_int (Kd.R_reads' HO_13.out).2.2 ((rd_T61 t174 x14_4).f2) p185 q185; obtain rfl : (⟨gb178, 0, none⟩ : Addr) = ad185 := (by injection e185); (first | simp only [add_plain] at hx185_0 | simp only [add_at] at hx185_0 | simp only [Addr.add, Nat.zero_add] at hx185_0 | skip); replace p185 := eq_true p185; replace q185 := eq_true q185; have p39 : 0 ≤ (((rd_T61 t174 x14_4).f2) : Int) := of_decide_eq_true (by first | (with_reducible assumption) | assumption); have q39 : (((rd_T61 t174 x14_4).f2) : Int) < ((256 : Nat) : Int) := of_decide_eq_true (by first | (with_reducible assumption) | assumption); obtain ⟨hx39_0, hf39_0⟩ := Kd.R_celln 0 HO_13.out (((rd_T61 t174 x14_4).f2) : Int) p39 q39; replace p39 := eq_true p39; replace q39 := eq_true q39; obtain ⟨hy46_, hz46_⟩ := Kd.R_celln 0 HO_13.out (((rd_T61 t174 x14_4).f2) : Int) (of_decide_eq_true (by first | (with_reducible assumption) | assumption)) (of_decide_eq_true (by first | (with_reducible assumption) | assumption)); have HP46 := Kd.R_putg HO_13.out (((rd_T61 t174 x14_4).f2) : Int) (wrap64 ((rd y183 ((rd_T61 t174 x14_4).f2)) - 1))) | ((with_reducible refine gate_store (t := 3) (p := 95) rfl ?_); (try (rw [drewN_self w45]; generalize hq_ : World.drewN w45 _ = w45; have n0_ := Aside0.mk (Kd.R_at hq_ HO_9.out); have n1_ := Aside0.mk (Kd.R_at hq_ HO_12.out); have n2_ := Aside0.mk (Kd.R_at hq_ HO_13.out); have n3_ := Aside0.mk (below_at hq_ HB.out); clear hq_ HO_9 HO_12 HO_13 HB; have HO_9 := n0_; have HO_12 := n1_; have HO_13 := n2_; have HB := n3_; clear n0_ n1_ n2_ n3_; (try (obtain ⟨hy46_, hz46_⟩ := Kd.R_celln 0 HO_13.out (((rd_T61 t174 x14_4).f2) : Int) (of_decide_eq_true (by first | (with_reducible assumption) | assumption)) (of_decide_eq_true (by first | (with_reducible assumption) | assumption)))); (try (have HP46 := Kd.R_putg HO_13.out (((rd_T61 t174 x14_4).f2) : Int) (wrap64 ((rd y183 ((rd_T61 t174 x14_4).f2)) - 1)))))); refine store_event (t := 3) (p := 95) (v := ?vo_w47) (w1 := (w45.setCell ⟨gb178, (((rd_T61 t174 x14_4).f2) : Int).toNat, none⟩ (.int .i64 (wrap64 ((rd y183 ((rd_T61 t174 x14_4).f2)) - 1))))) ?hg ?ho ?hn ?hr ?_; (case ho => rfl); (case hg => rfl); (case hn => rfl); (case hr => first | (go_simp; done) | (go_simp; rfl)); intro w47 hw; have hg : w45.grownBy w47 (some gb178) := (by rw [hw]; exact HP46.2); have hp_ : Kd.R (Kd.int .i64) 59 w47 w.heap.size (fun k_ => some k_ ≠ (.slice (some ⟨gO, 0, none⟩) x9_4.length co25 : Value).ownBlock) (.slice (some ⟨gb178, 0, none⟩) 256 256) y186 := (by rw [hw, Ny186.out]; exact HP46.1); clear HP46; have n0_ := Aside0.mk (Kd.R_after (v := (.slice (some ⟨gb178, 0, none⟩) 256 256)) (v1 := (.slice (some ⟨gb178, 0, none⟩) 256 256)) (ok := (fun _ => True)) (by (with_reducible repeat (first | apply Kd.R_alloc | apply Kd.R_drewN | apply Kd.R_drew)); exact HO_9.out) hg (.inl rfl)); have n1_ := Aside0.mk (Kd.R_over' (v := (.slice (some ⟨gb178, 0, none⟩) 256 256)) (by (with_reducible repeat (first | apply Kd.R_alloc | apply Kd.R_drewN | apply Kd.R_drew)); exact HO_12.out) (Kd.R_typed HO_13.out) (by decide) hg); have n2_ := Aside0.mk (hp_); have n3_ := Aside0.mk ((by rw [hw]; exact below_set (HB.out) GB36.out : Below w.heap.size w w47)); clear HO_9; clear HO_12; clear HO_13; clear HB; have HO_9 := n0_; have HO_12 := n1_; have HO_13 := n2_; have HB := n3_; clear n0_ n1_ n2_ n3_; clear hg hw hp_; have p187 : 0 ≤ (x14_4 : Int) := of_decide_eq_true (by first | (with_reducible assumption) | assumption); have q187 : x14_4 < (t174.length : Int) := of_decide_eq_true (by first | (with_reducible assumption) | assumption); obtain ⟨ad187, e187, hx187_0, hx187_1, hx187_2⟩ := at_T61 (Kd.R_reads' HO_12.out).2.2 x14_4 p187 q187; obtain rfl : ad180 = ad187 := (by injection e187); replace p187 := eq_true p187; replace q187 := eq_true q187; have p188 : 0 ≤ (x14_4 : Int) := of_decide_eq_true (by first | (with_reducible assumption) | assumption); have q188 : x14_4 < (t174.length : Int) := of_decide_eq_true (by first | (with_reducible assumption) | assumption); obtain ⟨ad188, e188, hx188_0, hx188_1, hx188_2⟩ := at_T61 (Kd.R_reads' HO_12.out).2.2 x14_4 p188 q188; obtain rfl : ad180 = ad188 := (by injection e188); replace p188 := eq_true p188; replace q188 := eq_true q188)))
                                            (try simp only [← hl9_4])
                                            go_roundg k4
                                            case measure => have := HJ3.out; have := HK2.out; have := HK3.out; have := HK4.out; omega
                                            case rel => exact ⟨(x9_4), (y186), (wrap64 (x14_4 + 1)), (ji41), (by first | rfl | (simp; done) | (simp [*]; done)), (by first | rfl | (simp; done) | (simp only [← hji41] <;> (first | rfl | simp)) | (simp [*]; done)), H', ⟨by have := HJ3.out; have := HK2.out; have := HK3.out; have := HK4.out; omega⟩, ⟨by (try simp only [hl9_3]); (try simp only [hl9_4]); (with_reducible repeat (first | apply Kd.R_alloc | apply Kd.R_drewN | apply Kd.R_drew)); exact Kd.R_mono HO_9.out (fun _ hk => hk.2)⟩, ⟨by (try simp only [hl9_3]); (try simp only [hl9_4]); (with_reducible repeat (first | apply Kd.R_alloc | apply Kd.R_drewN | apply Kd.R_drew)); exact HO_12.out⟩, ⟨by (try simp only [hl9_3]); (try simp only [hl9_4]); (with_reducible repeat (first | apply Kd.R_alloc | apply Kd.R_drewN | apply Kd.R_drew)); exact HO_13.out⟩, ⟨by repeat (first | (with_reducible first | exact HB.out | apply below_alloc | apply pw_below_drewN | apply below_drew1) | exact HB.out)⟩⟩
                                          · rw [if_neg c38] at H
                                            exact absurd H (by simp)
                                        · rw [if_neg c37] at H
                                          exact absurd H (by simp)
                                      · rw [if_neg c35] at H
                                        exact absurd H (by simp)
                                    · rw [if_neg c34] at H
                                      exact absurd H (by simp)
                                  · rw [if_neg c33] at H
                                    have c33b0 : (((rd_T61 t174 x14_4).f0) == x60_3) = false := beq_eq_false_iff_ne.mpr c33
                                    have c33b1 : (((rd_T61 t174 x14_4).f0) != x60_3) = true := bne_iff_ne.mpr c33
                                    have H' := Aside0.mk H
                                    clear H
                                    obtain ⟨Ao48, co48, eo48⟩ := Kd.R_slice HO_12.out
                                    subst eo48
                                    have p180 : 0 ≤ (x14_4 : Int) := of_decide_eq_true (by first | (with_reducible assumption) | assumption)
                                    have q180 : x14_4 < (t174.length : Int) := of_decide_eq_true (by first | (with_reducible assumption) | assumption)
                                    obtain ⟨ad180, e180, hx180_0, hx180_1, hx180_2⟩ := at_T61 (Kd.R_reads' HO_12.out).2.2 x14_4 p180 q180
                                    cases e180
                                    replace p180 := eq_true p180
                                    replace q180 := eq_true q180
                                    go_wp2
                                    repeat (go_quiet (fail); try go_wp2)
                                    (try simp only [← hl9_4])
                                    go_meet
                                    case rel => exact ⟨_, (x9_4), (x13_4), (x14_4), (x15_4), (by first | rfl | (simp; done) | (simp [*]; done)), (by first | rfl | (simp; done) | (simp [*]; done)), H', ⟨by have := HJ3.out; have := HK2.out; have := HK3.out; have := HK4.out; first | omega | exact Nat.le_refl _⟩, ⟨by (try simp only [hl9_3]); (try simp only [hl9_4]); (with_reducible repeat (first | apply Kd.R_alloc | apply Kd.R_drewN | apply Kd.R_drew)); exact HO_9.out⟩, ⟨by (try simp only [hl9_3]); (try simp only [hl9_4]); (with_reducible repeat (first | apply Kd.R_alloc | apply Kd.R_drewN | apply Kd.R_drew)); exact HO_12.out⟩, ⟨by (try simp only [hl9_3]); (try simp only [hl9_4]); (with_reducible repeat (first | apply Kd.R_alloc | apply Kd.R_drewN | apply Kd.R_drew)); exact HO_13.out⟩, ⟨by repeat (first | (with_reducible first | exact HB.out | apply below_alloc | apply pw_below_drewN | apply below_drew1) | exact HB.out)⟩⟩
                                · rw [if_neg c32] at H
                                  exact absurd H (by simp)
                              · rw [if_neg c31] at H
                                have c31b0 : decide (x14_4 < (t174.length : Int)) = false := decide_eq_false c31
                                clear c31
                                (first | rw [c31b0] | (simp only [i64_w, i32_w]; rw [c31b0]) | skip)
                                have H' := Aside0.mk H
                                clear H
                                obtain ⟨Ao49, co49, eo49⟩ := Kd.R_slice HO_12.out
                                subst eo49
                                go_wp2
                                repeat (go_quiet (fail); try go_wp2)
                                (try simp only [← hl9_4])
                                go_meet
                                case rel => exact ⟨_, (x9_4), (x13_4), (x14_4), (x15_4), (by first | rfl | (simp; done) | (simp [*]; done)), (by first | rfl | (simp; done) | (simp [*]; done)), H', ⟨by have := HJ3.out; have := HK2.out; have := HK3.out; have := HK4.out; first | omega | exact Nat.le_refl _⟩, ⟨by (try simp only [hl9_3]); (try simp only [hl9_4]); (with_reducible repeat (first | apply Kd.R_alloc | apply Kd.R_drewN | apply Kd.R_drew)); exact HO_9.out⟩, ⟨by (try simp only [hl9_3]); (try simp only [hl9_4]); (with_reducible repeat (first | apply Kd.R_alloc | apply Kd.R_drewN | apply Kd.R_drew)); exact HO_12.out⟩, ⟨by (try simp only [hl9_3]); (try simp only [hl9_4]); (with_reducible repeat (first | apply Kd.R_alloc | apply Kd.R_drewN | apply Kd.R_drew)); exact HO_13.out⟩, ⟨by repeat (first | (with_reducible first | exact HB.out | apply below_alloc | apply pw_below_drewN | apply below_drew1) | exact HB.out)⟩⟩
                        case rest =>
                          clear HC30
                          try clear c1
                          try clear p1
                          try clear q1
                          try clear hx1
                          try clear c2
                          try clear p2
                          try clear q2
                          try clear c3
                          try clear p3
                          try clear q3
                          try clear hx3
                          try clear hf3
                          try clear c6
                          try clear c6b0
                          try clear p6
                          try clear c8
                          try clear c8b0
                          try clear c11
                          try clear c13
                          try clear c13b0
                          try clear c13b1
                          try clear c14
                          try clear c14b0
                          try clear c14b1
                          try clear c17
                          try clear c17b0
                          try clear p18
                          try clear q18
                          try clear hx18
                          try clear c19
                          try clear c19b0
                          try clear c19b1
                          try clear c20
                          try clear c20b0
                          try clear c20b1
                          try clear c21
                          try clear c21b0
                          try clear c21b1
                          try clear c23
                          try clear c23b0
                          try clear c23b1
                          try clear c24
                          try clear q24
                          try clear c29
                          try clear c29b0
                          try clear c31
                          try clear c31b0
                          try clear c32
                          try clear c32b0
                          try clear c33
                          try clear c33b0
                          try clear c33b1
                          try clear c34
                          try clear c34b0
                          try clear c35
                          try clear c35b0
                          try clear p36
                          try clear q36
                          try clear hx36
                          try clear hf36
                          try clear c37
                          try clear c37b0
                          try clear c38
                          try clear c38b0
                          try clear p39
                          try clear q39
                          try clear hx39
                          try clear hf39
                          try clear hx180_0
                          try clear hx180_1
                          try clear hx180_2
                          try clear hx181_0
                          try clear hx181_1
                          try clear hx181_2
                          try clear hx182_0
                          try clear hx184_0
                          try clear hx184_1
                          try clear hx184_2
                          try clear hx185_0
                          try clear hx187_0
                          try clear hx187_1
                          try clear hx187_2
                          try clear hx188_0
                          try clear hx188_1
                          try clear hx188_2
                          try clear hx36_0
                          try clear hx39_0
                          try clear p180
                          try clear p181
                          try clear p182
                          try clear p184
                          try clear p185
                          try clear p187
                          try clear p188
                          try clear p2
                          try clear p36
                          try clear p39
                          try clear p6
                          try clear q024
                          try clear q180
                          try clear q181
                          try clear q182
                          try clear q184
                          try clear q185
                          try clear q187
                          try clear q188
                          try clear q2
                          try clear q24
                          try clear q36
                          try clear q39
                          obtain ⟨kq, x9_29, x13_29, x14_29, x15_29, rfl, rfl, HA, HJ29, HO_9, HO_12, HO_13, HB⟩ := hcut
                          have hl9_29 := (Kd.R_reads' HO_9.out).1
                          rw [hl9_29] at HO_9
                          (try simp only [hl9_29])
                          (try simp only [hl9_29] at HO_12)
                          (try simp only [hl9_29] at HO_13)
                          cases kq with
                          | zero => exact absurd HA.out (by simp [sweep_Owners.j4])
                          | succ kj29 =>
                            have H := HA.out
                            clear HA
                            simp only [sweep_Owners.j4] at H
                            have H' := Aside0.mk H
                            clear H
                            go_wp2
                            repeat (go_quiet (fail); try go_wp2)
                            go_loopg [17] kj29 (fun kq v17 w' => ∃ (x9_5 : List Int) (x17_5 : Int), v17 = .int .i64 x17_5 ∧ Aside0 (sweep_Owners.l3 kq l0 (wrap64 (4 * a1)) x9_5 x41_2 t174 x13_29 x14_29 x15_29 x17_5 (wrap64 (4 * a2)) x41_2 (wrap64 (4 * a1)) x60_3 ((wrap64 (x41_2 * (wrap64 (4 * a1)))) + x60_3) = some (r1, r2)) ∧ Aside0 (kq ≤ kj29) ∧ Aside0 (Kd.R (Kd.int .i64) 3 w' w.heap.size (fun k_ => some k_ ≠ ((.slice (some ⟨gb178, 0, none⟩) 256 256) : Value).ownBlock) (.slice (some ⟨gO, 0, none⟩) x9_29.length co25) x9_5) ∧ Aside0 (Kd.R k61 61 w' w.heap.size (fun _ => True) v175 t174) ∧ Aside0 (Kd.R (Kd.int .i64) 59 w' w.heap.size (fun k_ => some k_ ≠ ((.slice (some ⟨gO, 0, none⟩) x9_29.length co25) : Value).ownBlock) (.slice (some ⟨gb178, 0, none⟩) 256 256) x13_29) ∧ Aside0 (Below w.heap.size w w'))
                            case atStart => exact ⟨(x9_29), (x15_29), (by first | rfl | (simp; done) | (simp [*]; done)), H', ⟨Nat.le_refl _⟩, ⟨by (try simp only [hl9_3]); (try simp only [hl9_29]); (with_reducible repeat (first | apply Kd.R_alloc | apply Kd.R_drewN | apply Kd.R_drew)); exact HO_9.out⟩, ⟨by (try simp only [hl9_3]); (try simp only [hl9_29]); (with_reducible repeat (first | apply Kd.R_alloc | apply Kd.R_drewN | apply Kd.R_drew)); exact HO_12.out⟩, ⟨by (try simp only [hl9_3]); (try simp only [hl9_29]); (with_reducible repeat (first | apply Kd.R_alloc | apply Kd.R_drewN | apply Kd.R_drew)); exact HO_13.out⟩, ⟨by repeat (first | (with_reducible first | exact HB.out | apply below_alloc | apply pw_below_drewN | apply below_drew1) | exact HB.out)⟩⟩
                            case round =>
                              clear H'
                              try clear c1
                              try clear p1
                              try clear q1
                              try clear hx1
                              try clear c2
                              try clear p2
                              try clear q2
                              try clear c3
                              try clear p3
                              try clear q3
                              try clear hx3
                              try clear hf3
                              try clear c6
                              try clear c6b0
                              try clear p6
                              try clear c8
                              try clear c8b0
                              try clear c11
                              try clear c13
                              try clear c13b0
                              try clear c13b1
                              try clear c14
                              try clear c14b0
                              try clear c14b1
                              try clear c17
                              try clear c17b0
                              try clear p18
                              try clear q18
                              try clear hx18
                              try clear c19
                              try clear c19b0
                              try clear c19b1
                              try clear c20
                              try clear c20b0
                              try clear c20b1
                              try clear c21
                              try clear c21b0
                              try clear c21b1
                              try clear c23
                              try clear c23b0
                              try clear c23b1
                              try clear c24
                              try clear q24
                              try clear c29
                              try clear c29b0
                              try clear c31
                              try clear c31b0
                              try clear c32
                              try clear c32b0
                              try clear c33
                              try clear c33b0
                              try clear c33b1
                              try clear c34
                              try clear c34b0
                              try clear c35
                              try clear c35b0
                              try clear p36
                              try clear q36
                              try clear hx36
                              try clear hf36
                              try clear c37
                              try clear c37b0
                              try clear c38
                              try clear c38b0
                              try clear p39
                              try clear q39
                              try clear hx39
                              try clear hf39
                              try clear hx180_0
                              try clear hx180_1
                              try clear hx180_2
                              try clear hx181_0
                              try clear hx181_1
                              try clear hx181_2
                              try clear hx182_0
                              try clear hx184_0
                              try clear hx184_1
                              try clear hx184_2
                              try clear hx185_0
                              try clear hx187_0
                              try clear hx187_1
                              try clear hx187_2
                              try clear hx188_0
                              try clear hx188_1
                              try clear hx188_2
                              try clear hx36_0
                              try clear hx39_0
                              try clear p1
                              try clear p18
                              try clear p180
                              try clear p181
                              try clear p182
                              try clear p184
                              try clear p185
                              try clear p187
                              try clear p188
                              try clear p2
                              try clear p3
                              try clear p36
                              try clear p39
                              try clear p6
                              try clear q024
                              try clear q1
                              try clear q18
                              try clear q180
                              try clear q181
                              try clear q182
                              try clear q184
                              try clear q185
                              try clear q187
                              try clear q188
                              try clear q2
                              try clear q24
                              try clear q3
                              try clear q36
                              try clear q39
                              obtain ⟨x9_5, x17_5, rfl, HA, HK5, HO_9, HO_12, HO_13, HB⟩ := hrel
                              have hl9_5 := (Kd.R_reads' HO_9.out).1
                              rw [hl9_5] at HO_9
                              (try simp only [hl9_5])
                              (try simp only [hl9_5] at HO_12)
                              (try simp only [hl9_5] at HO_13)
                              cases gk with
                              | zero => exact absurd HA.out (by simp [sweep_Owners.l3])
                              | succ k5 =>
                                have H := HA.out
                                clear HA
                                simp only [sweep_Owners.l3] at H
                                have HC50 := Aside0.mk H
                                clear H
                                go_upto_region 21 with (fail)
                                repeat (go_quiet (fail); go_upto_region 21 with (fail))
                                go_cut [117] (fun v117 wc => ∃ (kq : Nat) (x117_49 : Bool), v117 = .bool x117_49 ∧ Aside0 (sweep_Owners.j6 kq l0 (wrap64 (4 * a1)) x9_5 x41_2 t174 x13_29 x14_29 x15_29 x17_5 (wrap64 (4 * a2)) x41_2 (wrap64 (4 * a1)) x60_3 x117_49 ((wrap64 (x41_2 * (wrap64 (4 * a1)))) + x60_3) = some (r1, r2)) ∧ Aside0 (kq ≤ k5) ∧ Aside0 (Kd.R (Kd.int .i64) 3 wc w.heap.size (fun k_ => some k_ ≠ ((.slice (some ⟨gb178, 0, none⟩) 256 256) : Value).ownBlock) (.slice (some ⟨gO, 0, none⟩) x9_5.length co25) x9_5) ∧ Aside0 (Kd.R k61 61 wc w.heap.size (fun _ => True) v175 t174) ∧ Aside0 (Kd.R (Kd.int .i64) 59 wc w.heap.size (fun k_ => some k_ ≠ ((.slice (some ⟨gO, 0, none⟩) x9_5.length co25) : Value).ownBlock) (.slice (some ⟨gb178, 0, none⟩) 256 256) x13_29) ∧ Aside0 (Below w.heap.size w wc))
                                case first =>
                                  have H := HC50.out
                                  clear HC50
                                  by_cases c51 : x17_5 > 0
                                  · rw [if_pos c51] at H
                                    have c51b0 : decide (0 < x17_5) = true := decide_eq_true c51
                                    clear c51
                                    (first | rw [c51b0] | (simp only [i64_w, i32_w]; rw [c51b0]) | skip)
                                    obtain ⟨ji52, hji52⟩ : ∃ j_ : Int, ((wrap64 (x41_2 * (wrap64 (4 * a1)))) + x60_3) = j_ := ⟨_, rfl⟩
                                    replace H : (if 0 ≤ (ji52) then (if (ji52) < (x9_5.length : Int) then (sweep_Owners.j6 k5 l0 (wrap64 (4 * a1)) x9_5 x41_2 t174 x13_29 x14_29 x15_29 x17_5 (wrap64 (4 * a2)) x41_2 (wrap64 (4 * a1)) x60_3 ((rd x9_5 (ji52)) == 0) (ji52)) else (none)) else (none)) = some (r1, r2) := by first | (rw [hji52] at H; exact H) | (simp only [hji52] at H ⊢; exact H)
                                    by_cases c53 : 0 ≤ (ji52)
                                    · rw [if_pos c53] at H
                                      have c53b0 : decide (0 ≤ (ji52)) = true := decide_eq_true c53
                                      clear c53
                                      by_cases c54 : (ji52) < (x9_5.length : Int)
                                      · rw [if_pos c54] at H
                                        have c54b0 : decide ((ji52) < (x9_5.length : Int)) = true := decide_eq_true c54
                                        clear c54
                                        have H' := Aside0.mk H
                                        clear H
                                        have KK_ := K29.out
                                        have KN_ := KN24.out
                                        have KI_ := K18.out
                                        have hadd_ : (ji18 : Int).toNat + (x60_3 : Int).toNat = (ji52 : Int).toNat := by have := K19.out; omega
                                        have pr_ : (0 ≤ x60_3) = True := eq_true (by omega)
                                        have qr_ : (x60_3 < (n24 : Int)) = True := eq_true (by omega)
                                        clear KK_ KN_ KI_
                                        have p189 : 0 ≤ ((ji52) : Int) := of_decide_eq_true (by first | (with_reducible assumption) | assumption)
                                        have q189 : (ji52) < (x9_5.length : Int) := of_decide_eq_true (by first | (with_reducible assumption) | assumption)
                                        obtain ⟨ad189, e189, hx189_0⟩ := Kd.at_int (Kd.R_reads' HO_9.out).2.2 (ji52) p189 q189
                                        cases e189
                                        (first | simp only [add_plain] at hx189_0 | skip)
                                        replace p189 := eq_true p189
                                        replace q189 := eq_true q189
                                        go_wp2
                                        repeat (go_quiet (fail); try go_wp2)
                                        go_meet
                                        case rel => exact ⟨k5, (((rd x9_5 (ji52)) == 0)), (by first | rfl | (simp; done) | (simp only [← hji52] <;> (first | rfl | simp)) | (simp [*]; done)), (by rw [hji52]; exact H'), ⟨by have := HJ3.out; have := HK2.out; have := HK3.out; have := HJ29.out; have := HK5.out; first | omega | exact Nat.le_refl _⟩, ⟨by (try simp only [hl9_3]); (try simp only [hl9_29]); (try simp only [hl9_5]); (with_reducible repeat (first | apply Kd.R_alloc | apply Kd.R_drewN | apply Kd.R_drew)); exact HO_9.out⟩, ⟨by (try simp only [hl9_3]); (try simp only [hl9_29]); (try simp only [hl9_5]); (with_reducible repeat (first | apply Kd.R_alloc | apply Kd.R_drewN | apply Kd.R_drew)); exact HO_12.out⟩, ⟨by (try simp only [hl9_3]); (try simp only [hl9_29]); (try simp only [hl9_5]); (with_reducible repeat (first | apply Kd.R_alloc | apply Kd.R_drewN | apply Kd.R_drew)); exact HO_13.out⟩, ⟨by repeat (first | (with_reducible first | exact HB.out | apply below_alloc | apply pw_below_drewN | apply below_drew1) | exact HB.out)⟩⟩
                                      · rw [if_neg c54] at H
                                        exact absurd H (by simp)
                                    · rw [if_neg c53] at H
                                      exact absurd H (by simp)
                                  · rw [if_neg c51] at H
                                    have c51b0 : decide (0 < x17_5) = false := decide_eq_false c51
                                    clear c51
                                    (first | rw [c51b0] | (simp only [i64_w, i32_w]; rw [c51b0]) | skip)
                                    have H' := Aside0.mk H
                                    clear H
                                    go_wp2
                                    repeat (go_quiet (fail); try go_wp2)
                                    go_meet
                                    case rel => exact ⟨_, (false), (by first | rfl | (simp; done) | (simp [*]; done)), H', ⟨by have := HJ3.out; have := HK2.out; have := HK3.out; have := HJ29.out; have := HK5.out; first | omega | exact Nat.le_refl _⟩, ⟨by (try simp only [hl9_3]); (try simp only [hl9_29]); (try simp only [hl9_5]); (with_reducible repeat (first | apply Kd.R_alloc | apply Kd.R_drewN | apply Kd.R_drew)); exact HO_9.out⟩, ⟨by (try simp only [hl9_3]); (try simp only [hl9_29]); (try simp only [hl9_5]); (with_reducible repeat (first | apply Kd.R_alloc | apply Kd.R_drewN | apply Kd.R_drew)); exact HO_12.out⟩, ⟨by (try simp only [hl9_3]); (try simp only [hl9_29]); (try simp only [hl9_5]); (with_reducible repeat (first | apply Kd.R_alloc | apply Kd.R_drewN | apply Kd.R_drew)); exact HO_13.out⟩, ⟨by repeat (first | (with_reducible first | exact HB.out | apply below_alloc | apply pw_below_drewN | apply below_drew1) | exact HB.out)⟩⟩
                                case rest =>
                                  clear HC50
                                  try clear c1
                                  try clear p1
                                  try clear q1
                                  try clear hx1
                                  try clear c2
                                  try clear p2
                                  try clear q2
                                  try clear c3
                                  try clear p3
                                  try clear q3
                                  try clear hx3
                                  try clear hf3
                                  try clear c5
                                  try clear c6
                                  try clear c6b0
                                  try clear p6
                                  try clear c8
                                  try clear c8b0
                                  try clear c11
                                  try clear c13
                                  try clear c13b0
                                  try clear c13b1
                                  try clear c14
                                  try clear c14b0
                                  try clear c14b1
                                  try clear c17
                                  try clear c17b0
                                  try clear p18
                                  try clear q18
                                  try clear hx18
                                  try clear c19
                                  try clear c19b0
                                  try clear c19b1
                                  try clear c20
                                  try clear c20b0
                                  try clear c20b1
                                  try clear c21
                                  try clear c21b0
                                  try clear c21b1
                                  try clear c23
                                  try clear c23b0
                                  try clear c23b1
                                  try clear c24
                                  try clear q24
                                  try clear c29
                                  try clear c29b0
                                  try clear c31
                                  try clear c31b0
                                  try clear c32
                                  try clear c32b0
                                  try clear c33
                                  try clear c33b0
                                  try clear c33b1
                                  try clear c34
                                  try clear c34b0
                                  try clear c35
                                  try clear c35b0
                                  try clear p36
                                  try clear q36
                                  try clear hx36
                                  try clear hf36
                                  try clear c37
                                  try clear c37b0
                                  try clear c38
                                  try clear c38b0
                                  try clear p39
                                  try clear q39
                                  try clear hx39
                                  try clear hf39
                                  try clear c51
                                  try clear c51b0
                                  try clear c53
                                  try clear c53b0
                                  try clear c54
                                  try clear c54b0
                                  try clear hx180_0
                                  try clear hx180_1
                                  try clear hx180_2
                                  try clear hx181_0
                                  try clear hx181_1
                                  try clear hx181_2
                                  try clear hx182_0
                                  try clear hx184_0
                                  try clear hx184_1
                                  try clear hx184_2
                                  try clear hx185_0
                                  try clear hx187_0
                                  try clear hx187_1
                                  try clear hx187_2
                                  try clear hx188_0
                                  try clear hx188_1
                                  try clear hx188_2
                                  try clear hx189_0
                                  try clear hx36_0
                                  try clear hx39_0
                                  try clear p1
                                  try clear p18
                                  try clear p180
                                  try clear p181
                                  try clear p182
                                  try clear p184
                                  try clear p185
                                  try clear p187
                                  try clear p188
                                  try clear p189
                                  try clear p2
                                  try clear p3
                                  try clear p36
                                  try clear p39
                                  try clear p6
                                  try clear q024
                                  try clear q1
                                  try clear q18
                                  try clear q180
                                  try clear q181
                                  try clear q182
                                  try clear q184
                                  try clear q185
                                  try clear q187
                                  try clear q188
                                  try clear q189
                                  try clear q2
                                  try clear q24
                                  try clear q3
                                  try clear q36
                                  try clear q39
                                  obtain ⟨kq, x117_49, rfl, HA, HJ49, HO_9, HO_12, HO_13, HB⟩ := hcut
                                  cases kq with
                                  | zero => exact absurd HA.out (by simp [sweep_Owners.j6])
                                  | succ kj49 =>
                                    have H := HA.out
                                    clear HA
                                    simp only [sweep_Owners.j6] at H
                                    by_cases c55 : x117_49 = true
                                    · subst c55
                                      have H1 : (if 0 ≤ x17_5 then (if x17_5 < (x13_29.length : Int) then (if (rd x13_29 x17_5) > 0 then (if 0 ≤ ((wrap64 (x41_2 * (wrap64 (4 * a1)))) + x60_3) then (if ((wrap64 (x41_2 * (wrap64 (4 * a1)))) + x60_3) < (x9_5.length : Int) then (sweep_Owners.l3 kj49 l0 (wrap64 (4 * a1)) (x9_5.set (((wrap64 (x41_2 * (wrap64 (4 * a1)))) + x60_3) : Int).toNat x17_5) x41_2 t174 x13_29 x14_29 x15_29 (wrap64 (x17_5 - 1)) (wrap64 (4 * a2)) x41_2 (wrap64 (4 * a1)) x60_3 ((wrap64 (x41_2 * (wrap64 (4 * a1)))) + x60_3)) else (none)) else (none)) else (sweep_Owners.l3 kj49 l0 (wrap64 (4 * a1)) x9_5 x41_2 t174 x13_29 x14_29 x15_29 (wrap64 (x17_5 - 1)) (wrap64 (4 * a2)) x41_2 (wrap64 (4 * a1)) x60_3 ((wrap64 (x41_2 * (wrap64 (4 * a1)))) + x60_3))) else (none)) else (none)) = some (r1, r2) := by rw [if_pos rfl] at H; exact H
                                      clear H
                                      have H := H1
                                      clear H1
                                      by_cases c56 : 0 ≤ x17_5
                                      · rw [if_pos c56] at H
                                        have c56b0 : decide (0 ≤ x17_5) = true := decide_eq_true c56
                                        clear c56
                                        by_cases c57 : x17_5 < (x13_29.length : Int)
                                        · rw [if_pos c57] at H
                                          have hl57 : x13_29.length = 256 := ((Kd.R_reads' HO_13.out).1).symm
                                          have c57b3 : (x17_5 < (256 : Int)) = True := eq_true (by omega)
                                          clear hl57
                                          have c57b0 : decide (x17_5 < (x13_29.length : Int)) = true := decide_eq_true c57
                                          clear c57
                                          by_cases c58 : (rd x13_29 x17_5) > 0
                                          · rw [if_pos c58] at H
                                            have c58b0 : decide (0 < (rd x13_29 x17_5)) = true := decide_eq_true c58
                                            clear c58
                                            obtain ⟨ji59, hji59⟩ : ∃ j_ : Int, ((wrap64 (x41_2 * (wrap64 (4 * a1)))) + x60_3) = j_ := ⟨_, rfl⟩
                                            replace H : (if 0 ≤ (ji59) then (if (ji59) < (x9_5.length : Int) then (sweep_Owners.l3 kj49 l0 (wrap64 (4 * a1)) (x9_5.set ((ji59) : Int).toNat x17_5) x41_2 t174 x13_29 x14_29 x15_29 (wrap64 (x17_5 - 1)) (wrap64 (4 * a2)) x41_2 (wrap64 (4 * a1)) x60_3 (ji59)) else (none)) else (none)) = some (r1, r2) := by first | (rw [hji59] at H; exact H) | (simp only [hji59] at H ⊢; exact H)
                                            by_cases c60 : 0 ≤ (ji59)
                                            · rw [if_pos c60] at H
                                              have c60b0 : decide (0 ≤ (ji59)) = true := decide_eq_true c60
                                              clear c60
                                              by_cases c61 : (ji59) < (x9_5.length : Int)
                                              · rw [if_pos c61] at H
                                                have c61b0 : decide ((ji59) < (x9_5.length : Int)) = true := decide_eq_true c61
                                                clear c61
                                                obtain ⟨y191, hy191⟩ : ∃ y_ : List Int, y_ = (x9_5.set ((ji59) : Int).toNat x17_5) := ⟨_, rfl⟩
                                                replace H : (sweep_Owners.l3 kj49 l0 (wrap64 (4 * a1)) y191 x41_2 t174 x13_29 x14_29 x15_29 (wrap64 (x17_5 - 1)) (wrap64 (4 * a2)) x41_2 (wrap64 (4 * a1)) x60_3 (ji59)) = some (r1, r2) := by first | (rw [hy191]; with_reducible exact H) | (have H2_ := (Option.bind_some _ _).symm.trans H; rw [hy191]; with_reducible exact H2_) | (have H2_ := (Option.bind_some _ _).symm.trans H; with_reducible exact H2_) | with_reducible exact H | (rw [hy191]; exact H) | exact H
                                                have Ny191 := Aside0.mk hy191
                                                clear hy191
                                                have H' := Aside0.mk H
                                                clear H
                                                have p190 : 0 ≤ (x17_5 : Int) := of_decide_eq_true (by first | (with_reducible assumption) | assumption)
                                                have q190 : x17_5 < (x13_29.length : Int) := of_decide_eq_true (by first | (with_reducible assumption) | assumption)
                                                obtain ⟨ad190, e190, hx190_0⟩ := Kd.at_int (Kd.R_reads' HO_13.out).2.2 x17_5 p190 q190
                                                cases e190
                                                (first | simp only [add_plain] at hx190_0 | skip)
                                                replace p190 := eq_true p190
                                                replace q190 := eq_true q190
                                                have KK_ := K29.out
                                                have KN_ := KN24.out
                                                have KI_ := K18.out
                                                have hadd_ : (ji18 : Int).toNat + (x60_3 : Int).toNat = (ji59 : Int).toNat := by have := K19.out; omega
                                                have pr_ : (0 ≤ x60_3) = True := eq_true (by omega)
                                                have qr_ : (x60_3 < (n24 : Int)) = True := eq_true (by omega)
                                                clear KK_ KN_ KI_
                                                have p62 : 0 ≤ ((ji59) : Int) := of_decide_eq_true (by first | (with_reducible assumption) | assumption)
                                                have q62 : ((ji59) : Int) < ((x9_5.length : Int) : Int) := of_decide_eq_true (by first | (with_reducible assumption) | assumption)
                                                have GB62 := GBO
                                                obtain ⟨hx62_0, hf62_0⟩ := Kd.R_celln 0 HO_9.out ((ji59) : Int) p62 q62
                                                replace p62 := eq_true p62
                                                replace q62 := eq_true q62
                                                have HP64 := Kd.R_putg HO_9.out ((ji59) : Int) x17_5
                                                go_wp2_with (first | ((with_reducible refine gate_store (t := 3) (p := 127) rfl ?_); (try (rw [drewN_self wc]; generalize hq_ : World.drewN wc _ = wc; have n0_ := Aside0.mk (Kd.R_at hq_ HO_9.out); have n1_ := Aside0.mk (Kd.R_at hq_ HO_12.out); have n2_ := Aside0.mk (Kd.R_at hq_ HO_13.out); have n3_ := Aside0.mk (below_at hq_ HB.out); clear hq_ HO_9 HO_12 HO_13 HB; have HO_9 := n0_; have HO_12 := n1_; have HO_13 := n2_; have HB := n3_; clear n0_ n1_ n2_ n3_; (try (have HP64 := Kd.R_putg HO_9.out ((ji59) : Int) x17_5)); (try (obtain ⟨hxHP64_z, hfHP64_z⟩ := Kd.R_celln (by first | exact (0 : Int) | exact false | exact ByteArray.empty) HO_9.out ((ji59) : Int) (of_decide_eq_true (by first | (with_reducible assumption) | assumption)) (of_decide_eq_true (by first | (with_reducible assumption) | assumption)))))); refine store_event (t := 3) (p := 127) (v := ?vo_w65) (w1 := (wc.setCell ⟨gO, ((ji59) : Int).toNat, none⟩ (.int .i64 x17_5))) ?hg ?ho ?hn ?hr ?_; (case ho => rfl); (case hg => rfl); (case hn => rfl); (case hr => first | (go_simp; done) | (go_simp; rfl)); intro w65 hw; have hg : wc.grownBy w65 (some gO) := (by rw [hw]; exact HP64.2); have hp_ : Kd.R (Kd.int .i64) 3 w65 w.heap.size (fun k_ => some k_ ≠ (.slice (some ⟨gb178, 0, none⟩) 256 256 : Value).ownBlock) (.slice (some ⟨gO, 0, none⟩) x9_5.length co25) y191 := (by rw [hw, Ny191.out]; exact HP64.1); clear HP64; have n0_ := Aside0.mk (hp_); have n1_ := Aside0.mk (Kd.R_over' (v := (.slice (some ⟨gO, 0, none⟩) x9_5.length co25)) (by (with_reducible repeat (first | apply Kd.R_alloc | apply Kd.R_drewN | apply Kd.R_drew)); exact HO_12.out) (Kd.R_typed HO_9.out) (by decide) hg); have n2_ := Aside0.mk (Kd.R_after (v := (.slice (some ⟨gO, 0, none⟩) x9_5.length co25)) (v1 := (.slice (some ⟨gO, 0, none⟩) x9_5.length co25)) (ok := (fun _ => True)) (by (with_reducible repeat (first | apply Kd.R_alloc | apply Kd.R_drewN | apply Kd.R_drew)); exact Kd.R_mono HO_13.out (fun _ hk => ⟨trivial, hk⟩)) hg (.inl rfl)); have n3_ := Aside0.mk ((by rw [hw]; exact below_set (HB.out) GB62.out : Below w.heap.size w w65)); clear HO_9; clear HO_12; clear HO_13; clear HB; have HO_9 := n0_; have HO_12 := n1_; have HO_13 := n2_; have HB := n3_; clear n0_ n1_ n2_ n3_; clear hg hw hp_))
                                                repeat (go_quiet (first | ((with_reducible refine gate_store (t := 3) (p := 127) rfl ?_); (try (rw [drewN_self wc]; generalize hq_ : World.drewN wc _ = wc; have n0_ := Aside0.mk (Kd.R_at hq_ HO_9.out); have n1_ := Aside0.mk (Kd.R_at hq_ HO_12.out); have n2_ := Aside0.mk (Kd.R_at hq_ HO_13.out); have n3_ := Aside0.mk (below_at hq_ HB.out); clear hq_ HO_9 HO_12 HO_13 HB; have HO_9 := n0_; have HO_12 := n1_; have HO_13 := n2_; have HB := n3_; clear n0_ n1_ n2_ n3_; (try (have HP64 := Kd.R_putg HO_9.out ((ji59) : Int) x17_5)); (try (obtain ⟨hxHP64_z, hfHP64_z⟩ := Kd.R_celln (by first | exact (0 : Int) | exact false | exact ByteArray.empty) HO_9.out ((ji59) : Int) (of_decide_eq_true (by first | (with_reducible assumption) | assumption)) (of_decide_eq_true (by first | (with_reducible assumption) | assumption)))))); refine store_event (t := 3) (p := 127) (v := ?vo_w65) (w1 := (wc.setCell ⟨gO, ((ji59) : Int).toNat, none⟩ (.int .i64 x17_5))) ?hg ?ho ?hn ?hr ?_; (case ho => rfl); (case hg => rfl); (case hn => rfl); (case hr => first | (go_simp; done) | (go_simp; rfl)); intro w65 hw; have hg : wc.grownBy w65 (some gO) := (by rw [hw]; exact HP64.2); have hp_ : Kd.R (Kd.int .i64) 3 w65 w.heap.size (fun k_ => some k_ ≠ (.slice (some ⟨gb178, 0, none⟩) 256 256 : Value).ownBlock) (.slice (some ⟨gO, 0, none⟩) x9_5.length co25) y191 := (by rw [hw, Ny191.out]; exact HP64.1); clear HP64; have n0_ := Aside0.mk (hp_); have n1_ := Aside0.mk (Kd.R_over' (v := (.slice (some ⟨gO, 0, none⟩) x9_5.length co25)) (by (with_reducible repeat (first | apply Kd.R_alloc | apply Kd.R_drewN | apply Kd.R_drew)); exact HO_12.out) (Kd.R_typed HO_9.out) (by decide) hg); have n2_ := Aside0.mk (Kd.R_after (v := (.slice (some ⟨gO, 0, none⟩) x9_5.length co25)) (v1 := (.slice (some ⟨gO, 0, none⟩) x9_5.length co25)) (ok := (fun _ => True)) (by (with_reducible repeat (first | apply Kd.R_alloc | apply Kd.R_drewN | apply Kd.R_drew)); exact Kd.R_mono HO_13.out (fun _ hk => ⟨trivial, hk⟩)) hg (.inl rfl)); have n3_ := Aside0.mk ((by rw [hw]; exact below_set (HB.out) GB62.out : Below w.heap.size w w65)); clear HO_9; clear HO_12; clear HO_13; clear HB; have HO_9 := n0_; have HO_12 := n1_; have HO_13 := n2_; have HB := n3_; clear n0_ n1_ n2_ n3_; clear hg hw hp_)); try go_wp2_with (first | ((with_reducible refine gate_store (t := 3) (p := 127) rfl ?_); (try (rw [drewN_self wc]; generalize hq_ : World.drewN wc _ = wc; have n0_ := Aside0.mk (Kd.R_at hq_ HO_9.out); have n1_ := Aside0.mk (Kd.R_at hq_ HO_12.out); have n2_ := Aside0.mk (Kd.R_at hq_ HO_13.out); have n3_ := Aside0.mk (below_at hq_ HB.out); clear hq_ HO_9 HO_12 HO_13 HB; have HO_9 := n0_; have HO_12 := n1_; have HO_13 := n2_; have HB := n3_; clear n0_ n1_ n2_ n3_; (try (have HP64 := Kd.R_putg HO_9.out ((ji59) : Int) x17_5)); (try (obtain ⟨hxHP64_z, hfHP64_z⟩ := Kd.R_celln (by first | exact (0 : Int) | exact false | exact ByteArray.empty) HO_9.out ((ji59) : Int) (of_decide_eq_true (by first | (with_reducible assumption) | assumption)) (of_decide_eq_true (by first | (with_reducible assumption) | assumption)))))); refine store_event (t := 3) (p := 127) (v := ?vo_w65) (w1 := (wc.setCell ⟨gO, ((ji59) : Int).toNat, none⟩ (.int .i64 x17_5))) ?hg ?ho ?hn ?hr ?_; (case ho => rfl); (case hg => rfl); (case hn => rfl); (case hr => first | (go_simp; done) | (go_simp; rfl)); intro w65 hw; have hg : wc.grownBy w65 (some gO) := (by rw [hw]; exact HP64.2); have hp_ : Kd.R (Kd.int .i64) 3 w65 w.heap.size (fun k_ => some k_ ≠ (.slice (some ⟨gb178, 0, none⟩) 256 256 : Value).ownBlock) (.slice (some ⟨gO, 0, none⟩) x9_5.length co25) y191 := (by rw [hw, Ny191.out]; exact HP64.1); clear HP64; have n0_ := Aside0.mk (hp_); have n1_ := Aside0.mk (Kd.R_over' (v := (.slice (some ⟨gO, 0, none⟩) x9_5.length co25)) (by (with_reducible repeat (first | apply Kd.R_alloc | apply Kd.R_drewN | apply Kd.R_drew)); exact HO_12.out) (Kd.R_typed HO_9.out) (by decide) hg); have n2_ := Aside0.mk (Kd.R_after (v := (.slice (some ⟨gO, 0, none⟩) x9_5.length co25)) (v1 := (.slice (some ⟨gO, 0, none⟩) x9_5.length co25)) (ok := (fun _ => True)) (by (with_reducible repeat (first | apply Kd.R_alloc | apply Kd.R_drewN | apply Kd.R_drew)); exact Kd.R_mono HO_13.out (fun _ hk => ⟨trivial, hk⟩)) hg (.inl rfl)); have n3_ := Aside0.mk ((by rw [hw]; exact below_set (HB.out) GB62.out : Below w.heap.size w w65)); clear HO_9; clear HO_12; clear HO_13; clear HB; have HO_9 := n0_; have HO_12 := n1_; have HO_13 := n2_; have HB := n3_; clear n0_ n1_ n2_ n3_; clear hg hw hp_)))
                                                (try simp only [← hl9_5])
                                                go_roundg kj49
                                                case measure => have := HJ3.out; have := HK2.out; have := HK3.out; have := HJ29.out; have := HK5.out; have := HJ49.out; omega
                                                case rel => exact ⟨(y191), (wrap64 (x17_5 - 1)), (by first | rfl | (simp; done) | (simp [*]; done)), (by rw [hji59]; exact H'), ⟨by have := HJ3.out; have := HK2.out; have := HK3.out; have := HJ29.out; have := HK5.out; have := HJ49.out; omega⟩, ⟨by (try simp only [hl9_3]); (try simp only [hl9_29]); (try simp only [hl9_5]); (with_reducible repeat (first | apply Kd.R_alloc | apply Kd.R_drewN | apply Kd.R_drew)); exact HO_9.out⟩, ⟨by (try simp only [hl9_3]); (try simp only [hl9_29]); (try simp only [hl9_5]); (with_reducible repeat (first | apply Kd.R_alloc | apply Kd.R_drewN | apply Kd.R_drew)); exact HO_12.out⟩, ⟨by (try simp only [hl9_3]); (try simp only [hl9_29]); (try simp only [hl9_5]); (with_reducible repeat (first | apply Kd.R_alloc | apply Kd.R_drewN | apply Kd.R_drew)); exact Kd.R_mono HO_13.out (fun _ hk => hk.2)⟩, ⟨by repeat (first | (with_reducible first | exact HB.out | apply below_alloc | apply pw_below_drewN | apply below_drew1) | exact HB.out)⟩⟩
                                              · rw [if_neg c61] at H
                                                exact absurd H (by simp)
                                            · rw [if_neg c60] at H
                                              exact absurd H (by simp)
                                          · rw [if_neg c58] at H
                                            have c58b0 : decide (0 < (rd x13_29 x17_5)) = false := decide_eq_false c58
                                            clear c58
                                            have H' := Aside0.mk H
                                            clear H
                                            have p190 : 0 ≤ (x17_5 : Int) := of_decide_eq_true (by first | (with_reducible assumption) | assumption)
                                            have q190 : x17_5 < (x13_29.length : Int) := of_decide_eq_true (by first | (with_reducible assumption) | assumption)
                                            obtain ⟨ad190, e190, hx190_0⟩ := Kd.at_int (Kd.R_reads' HO_13.out).2.2 x17_5 p190 q190
                                            cases e190
                                            (first | simp only [add_plain] at hx190_0 | skip)
                                            replace p190 := eq_true p190
                                            replace q190 := eq_true q190
                                            go_wp2
                                            repeat (go_quiet (fail); try go_wp2)
                                            (try simp only [← hl9_5])
                                            go_roundg kj49
                                            case measure => have := HJ3.out; have := HK2.out; have := HK3.out; have := HJ29.out; have := HK5.out; have := HJ49.out; omega
                                            case rel => exact ⟨(x9_5), (wrap64 (x17_5 - 1)), (by first | rfl | (simp; done) | (simp [*]; done)), H', ⟨by have := HJ3.out; have := HK2.out; have := HK3.out; have := HJ29.out; have := HK5.out; have := HJ49.out; omega⟩, ⟨by (try simp only [hl9_3]); (try simp only [hl9_29]); (try simp only [hl9_5]); (with_reducible repeat (first | apply Kd.R_alloc | apply Kd.R_drewN | apply Kd.R_drew)); exact HO_9.out⟩, ⟨by (try simp only [hl9_3]); (try simp only [hl9_29]); (try simp only [hl9_5]); (with_reducible repeat (first | apply Kd.R_alloc | apply Kd.R_drewN | apply Kd.R_drew)); exact HO_12.out⟩, ⟨by (try simp only [hl9_3]); (try simp only [hl9_29]); (try simp only [hl9_5]); (with_reducible repeat (first | apply Kd.R_alloc | apply Kd.R_drewN | apply Kd.R_drew)); exact HO_13.out⟩, ⟨by repeat (first | (with_reducible first | exact HB.out | apply below_alloc | apply pw_below_drewN | apply below_drew1) | exact HB.out)⟩⟩
                                        · rw [if_neg c57] at H
                                          exact absurd H (by simp)
                                      · rw [if_neg c56] at H
                                        exact absurd H (by simp)
                                    · replace c55 := Bool.eq_false_iff.mpr c55
                                      subst c55
                                      have H1 : (sweep_Owners.l1 kj49 l0 (wrap64 (4 * a1)) x9_5 x41_2 t174 x13_29 x14_29 x15_29 (wrap64 (4 * a2)) x41_2 (wrap64 (4 * a1)) (wrap64 (x60_3 + 1))) = some (r1, r2) := by rw [if_neg (show ¬ (false = true) by decide)] at H; exact H
                                      clear H
                                      have H := H1
                                      clear H1
                                      have H' := Aside0.mk H
                                      clear H
                                      go_wp2
                                      repeat (go_quiet (fail); try go_wp2)
                                      (try simp only [← hl9_3, ← hl9_29, ← hl9_5])
                                      go_roundg kj49
                                      case measure => have := HJ3.out; have := HK2.out; have := HK3.out; have := HJ29.out; have := HK5.out; have := HJ49.out; omega
                                      case rel => exact ⟨(x9_5), (x13_29), (x14_29), (x15_29), (wrap64 (x60_3 + 1)), (by first | rfl | (simp; done) | (simp [*]; done)), (by first | rfl | (simp; done) | (simp [*]; done)), (by first | rfl | (simp; done) | (simp [*]; done)), H', ⟨by have := HJ3.out; have := HK2.out; have := HK3.out; have := HJ29.out; have := HK5.out; have := HJ49.out; omega⟩, ⟨by (try simp only [hl9_3]); (try simp only [hl9_29]); (try simp only [hl9_5]); (with_reducible repeat (first | apply Kd.R_alloc | apply Kd.R_drewN | apply Kd.R_drew)); exact HO_9.out⟩, ⟨by (try simp only [hl9_3]); (try simp only [hl9_29]); (try simp only [hl9_5]); (with_reducible repeat (first | apply Kd.R_alloc | apply Kd.R_drewN | apply Kd.R_drew)); exact HO_12.out⟩, ⟨by (try simp only [hl9_3]); (try simp only [hl9_29]); (try simp only [hl9_5]); (with_reducible repeat (first | apply Kd.R_alloc | apply Kd.R_drewN | apply Kd.R_drew)); exact HO_13.out⟩, ⟨by repeat (first | (with_reducible first | exact HB.out | apply below_alloc | apply pw_below_drewN | apply below_drew1) | exact HB.out)⟩⟩
                      · rw [if_neg c29] at H
                        have c29b0 : decide (x60_3 < (wrap64 (4 * a1))) = false := decide_eq_false c29
                        clear c29
                        have H' := Aside0.mk H
                        clear H
                        go_wp2
                        repeat (go_quiet (fail); try go_wp2)
                        (try simp only [← hl9_3])
                        go_roundg k3
                        case measure => have := HJ3.out; have := HK2.out; have := HK3.out; omega
                        case rel => exact ⟨(x9_3), (wrap64 (x41_2 + 1)), (by first | rfl | (simp; done) | (simp [*]; done)), H', ⟨by have := HJ3.out; have := HK2.out; have := HK3.out; omega⟩, ⟨by (try simp only [hl9_3]); (with_reducible repeat (first | apply Kd.R_alloc | apply Kd.R_drewN | apply Kd.R_drew)); exact Kd.R_mono HO_9.out (fun _ hk => trivial)⟩, ⟨by repeat (first | (with_reducible first | exact HB.out | apply below_alloc | apply pw_below_drewN | apply below_drew1) | exact HB.out)⟩⟩
                · rw [if_neg c17] at H
                  have c17b0 : decide (x41_2 < (wrap64 (4 * a2))) = false := decide_eq_false c17
                  clear c17
                  simp only [Option.some.injEq, Prod.mk.injEq] at H
                  obtain ⟨rfl, rfl⟩ := H
                  go_wp2
                  repeat (go_quiet (fail); try go_wp2)
                  go_ret2
                  exact ⟨_, by first | rfl | (simp [errW_none, errW_some] <;> rfl) | (simp only [← hji12]; first | rfl | (simp [errW_none, errW_some] <;> rfl)) | (simp [*, errW_none, errW_some] <;> rfl), by (with_reducible repeat (first | apply Kd.R_alloc | apply Kd.R_drewN | apply Kd.R_drew)); exact HO_9.out, by repeat (first | (with_reducible first | exact HB.out | apply below_alloc | apply pw_below_drewN | apply below_drew1) | exact HB.out)⟩
          · rw [if_neg c14] at H
            exact absurd H (by simp)
        · rw [if_neg c13] at H
          exact absurd H (by simp)

end Go.Proofs.Ytgmegmhioiljcaa.P
